/-
  SX, part G: min, max, len; literals built; new variables; stores. No condition.
-/
import Derived.Test.YtalnndmnnffnmaaGreatSxF
set_option linter.unusedVariables false
set_option linter.unusedSimpArgs false
namespace Go.Proofs.YtalnndmnnffnmaaGreat.Sx
open Go

section ops
variable {P : Program} {Φ : Funs} {Γ : Gd} {hp : Hp} {rv : Operand → SV} {dst : Option Tmp} {ty : TypeId} {pos : String} {after : Array Edge} {guard : Option (Nat × Bool)} {ρ : Env}

theorem allInts_vals {β : Beta} {ev : Operand → Value} {f : Operand → S} : ∀ {l : List Operand} {k : IntKind} {as : List A}, allInts (l.map f) = some (k, as) → (∀ x, x ∈ l → (f x).mt β ρ (ev x)) →
    l.map ev = as.map (fun a => Value.int k (a.d ρ)) ∧ ∀ a, a ∈ as → InR k (a.d ρ)
  | [], _, _, h, _ => by simp [allInts] at h
  | [x], k, as, h, hx => by
    simp only [List.map_cons, List.map_nil] at h
    unfold allInts at h
    split at h
    · rename_i l a he
      simp only [List.cons.injEq, and_true] at he
      simp only [Option.some.injEq, Prod.mk.injEq] at h
      obtain ⟨rfl, rfl⟩ := h
      obtain ⟨h1, h2⟩ := mt_int he (hx x (by simp))
      simp [h1, h2]
    · rename_i k' a r hne he
      simp only [List.cons.injEq] at he
      obtain ⟨_, rfl⟩ := he
      exact (hne rfl).elim
    · cases h
  | x :: y :: r, k, as, h, hx => by
    simp only [List.map_cons] at h
    unfold allInts at h
    split at h
    · rename_i he; simp at he
    · rename_i k' a r' hne he
      simp only [List.cons.injEq] at he
      obtain ⟨he1, he2⟩ := he
      split at h
      · rename_i l' as' h2
        split at h
        · rename_i hk
          simp only [beq_iff_eq] at hk
          simp only [Option.some.injEq, Prod.mk.injEq] at h
          obtain ⟨rfl, rfl⟩ := h
          subst hk
          obtain ⟨g1, g2⟩ := mt_int he1 (hx x (by simp))
          have ih := allInts_vals (l := y :: r) (k := k') (as := as') (by rw [List.map_cons, he2]; exact h2) (fun z hz => hx z (by simp only [List.mem_cons] at hz ⊢; exact .inr hz))
          refine ⟨by rw [List.map_cons, g1, ih.1, List.map_cons], fun b hb => ?_⟩
          rcases List.mem_cons.1 hb with rfl | hb
          · exact g2
          · exact ih.2 b hb
        · cases h
      · cases h
    · cases h
theorem foldMn_snd (k : IntKind) : ∀ (r : List A) (a : A), Snd Φ ρ (foldA mkMn a r) (fun z => InR k (a.d ρ) → (∀ b, b ∈ r → InR k (b.d ρ)) → InR k (z.d ρ) ∧ ∀ w,
    ((r.map fun b => Value.int k (b.d ρ)).foldlM Builtin.min2 (.int k (a.d ρ))).run P w = .ok (.int k (z.d ρ)) w)
  | [], a => Snd.pure fun h _ => ⟨h, fun w => rfl⟩
  | b :: r, a => by
    unfold foldA
    refine Snd.bind (mkMn_snd a b) fun c hc => (foldMn_snd k r c).mono fun z hz ha hb => ?_
    have hcr : InR k (c.d ρ) := by
      rw [hc]
      split
      · exact hb b (by simp)
      · exact ha
    obtain ⟨h1, h2⟩ := hz hcr fun x hx => hb x (by simp [hx])
    refine ⟨h1, fun w => ?_⟩
    have := h2 w
    rw [hc] at this
    simpa [Builtin.min2] using this
theorem foldMx_snd (k : IntKind) : ∀ (r : List A) (a : A), Snd Φ ρ (foldA mkMx a r) (fun z => InR k (a.d ρ) → (∀ b, b ∈ r → InR k (b.d ρ)) → InR k (z.d ρ) ∧ ∀ w,
    ((r.map fun b => Value.int k (b.d ρ)).foldlM Builtin.max2 (.int k (a.d ρ))).run P w = .ok (.int k (z.d ρ)) w)
  | [], a => Snd.pure fun h _ => ⟨h, fun w => rfl⟩
  | b :: r, a => by
    unfold foldA
    refine Snd.bind (mkMx_snd a b) fun c hc => (foldMx_snd k r c).mono fun z hz ha hb => ?_
    have hcr : InR k (c.d ρ) := by
      rw [hc]
      split
      · exact hb b (by simp)
      · exact ha
    obtain ⟨h1, h2⟩ := hz hcr fun x hx => hb x (by simp [hx])
    refine ⟨h1, fun w => ?_⟩
    have := h2 w
    rw [hc] at this
    simpa [Builtin.max2] using this

def xBuiltin (P : Program) (b : Builtin) (argTypes : Array TypeId) (xs : List S) : M S :=
  match b with
  | .min => xMinMax false xs
  | .max => xMinMax true xs
  | .len => match (argTypes[0]?).bind P.underlying, xs with
    | some .string, [.one false [.val (.string s)]] => if inR .i64 s.size then pure (.one false [.int .i64 (.c s.size)]) else M.fail
    | some (.array n _), [_] => if inR .i64 n then pure (.one false [.int .i64 (.c n)]) else M.fail
    | some (.slice _), [.one false [.sli id off n cap]] => if inR .i64 n then pure (.one false [.int .i64 (.c n)]) else M.fail
    | some (.slice _), [.one false [.slx id ks q len]] => pure (.one false [.int .i64 len])
    | some .string, [.one false [.str q]] => do pure (.one false [.int .i64 (← newI (.lenq q 1))])
    | _, _ => M.fail
  | _ => M.fail
theorem inR_spec {k : IntKind} {n : Int} (h : inR k n = true) : InR k n := by
  unfold inR at h
  simpa [InR] using h
theorem pure_builtin (hΓ : Gd.d ρ Γ = true) (b : Builtin) (args : Array Operand) (argTypes : Array TypeId) :
    Snd Φ ρ (xBuiltin P b argTypes (args.toList.map fun x => rs Γ (rv x))) (Pure P Γ hp rv ⟨dst, .call { callee := .builtin b, args := args, argTypes := argTypes }, ty, pos, after, guard⟩ ρ) := by
  have hops : ∀ x, x ∈ args.toList → x ∈ (Op.call { callee := .builtin b, args := args, argTypes := argTypes }).operands := fun x hx => by
    simp [Op.operands, Call.operands]; simpa using hx
  unfold xBuiltin
  split
  · unfold xMinMax
    split
    · rename_i k a r hai
      refine Snd.bind (foldMn_snd (P := P) k r a) fun z hz => Snd.pure fun β ac w hx hh hq => ?_
      obtain ⟨h1, h2⟩ := allInts_vals hai (fun x hxm => rs_mt hΓ (hx x (hops x hxm)))
      obtain ⟨g1, g2⟩ := hz (h2 a (by simp)) (fun b hb => h2 b (by simp [hb]))
      refine ⟨_, ?_, S.mt_i g1⟩
      have hl : (args.map ac.eval).toList = Value.int k (a.d ρ) :: r.map (fun b => Value.int k (b.d ρ)) := by simpa using h1
      simp only [execOp, resolve, Sem.run_bind, Sem.run_pure, Result.andThen_ok, invoke, builtin, Builtin.min_, hl, g2 w]
    · exact Snd.fail
  · unfold xMinMax
    split
    · rename_i k a r hai
      refine Snd.bind (foldMx_snd (P := P) k r a) fun z hz => Snd.pure fun β ac w hx hh hq => ?_
      obtain ⟨h1, h2⟩ := allInts_vals hai (fun x hxm => rs_mt hΓ (hx x (hops x hxm)))
      obtain ⟨g1, g2⟩ := hz (h2 a (by simp)) (fun b hb => h2 b (by simp [hb]))
      refine ⟨_, ?_, S.mt_i g1⟩
      have hl : (args.map ac.eval).toList = Value.int k (a.d ρ) :: r.map (fun b => Value.int k (b.d ρ)) := by simpa using h1
      simp only [execOp, resolve, Sem.run_bind, Sem.run_pure, Result.andThen_ok, invoke, builtin, Builtin.max_, hl, g2 w]
    · exact Snd.fail
  · have one : ∀ (s : S), args.toList.map (fun x => rs Γ (rv x)) = [s] → ∃ x, args = #[x] ∧ rs Γ (rv x) = s := fun s h => by
      cases hl : args.toList with
      | nil => rw [hl] at h; simp at h
      | cons x r =>
        rw [hl] at h
        simp only [List.map_cons, List.cons.injEq, List.map_eq_nil_iff] at h
        obtain ⟨h1, rfl⟩ := h
        exact ⟨x, by apply Array.toList_inj.1; simpa using hl, h1⟩
    split
    · rename_i s hu hs
      split
      · rename_i hr
        obtain ⟨x, rfl, hx1⟩ := one _ hs
        refine Snd.pure fun β ac w hx hh hq => ⟨_, ?_, mt_of_cell ⟨rfl, inR_spec hr⟩⟩
        have hv := (mt_cell hx1 (rs_mt hΓ (hx x (hops x (by simp))))).1
        cases ha : argTypes[0]? with
        | none => rw [ha] at hu; simp at hu
        | some t =>
          rw [ha] at hu
          simp only [Option.bind_some] at hu
          simp [execOp, resolve, invoke, builtin, Builtin.len_, ha, underlying, hu, hv, goInt]
      · exact Snd.fail
    · rename_i n e s hu hs
      split
      · rename_i hr
        obtain ⟨x, rfl, hx1⟩ := one _ hs
        refine Snd.pure fun β ac w hx hh hq => ⟨_, ?_, mt_of_cell ⟨rfl, inR_spec hr⟩⟩
        cases ha : argTypes[0]? with
        | none => rw [ha] at hu; simp at hu
        | some t =>
          rw [ha] at hu
          simp only [Option.bind_some] at hu
          simp [execOp, resolve, invoke, builtin, Builtin.len_, ha, underlying, hu, goInt]
      · exact Snd.fail
    · rename_i e id off n cap hu hs
      split
      · rename_i hr
        obtain ⟨x, rfl, hx1⟩ := one _ hs
        refine Snd.pure fun β ac w hx hh hq => ⟨_, ?_, mt_of_cell ⟨rfl, inR_spec hr⟩⟩
        obtain ⟨r, _, hv⟩ := mt_cell hx1 (rs_mt hΓ (hx x (hops x (by simp))))
        cases ha : argTypes[0]? with
        | none => rw [ha] at hu; simp at hu
        | some t =>
          rw [ha] at hu
          simp only [Option.bind_some] at hu
          simp [execOp, resolve, invoke, builtin, Builtin.len_, ha, underlying, hu, hv, goInt]
      · exact Snd.fail
    · rename_i e id ks q len hu hs
      obtain ⟨x, rfl, hx1⟩ := one _ hs
      refine Snd.pure fun β ac w hx hh hq => ?_
      obtain ⟨g1, g2, g3⟩ := mt_cell hx1 (rs_mt hΓ (hx x (hops x (by simp))))
      refine ⟨.int .i64 (len.d ρ), ?_, mt_of_cell ⟨rfl, g2⟩⟩
      cases ha : argTypes[0]? with
      | none => rw [ha] at hu; simp at hu
      | some t =>
        rw [ha] at hu
        simp only [Option.bind_some] at hu
        rcases g3 with ⟨_, h0, p, cap, hv⟩ | ⟨r, cap, l, _, _, _, _, _, hv⟩
        · simp [execOp, resolve, invoke, builtin, Builtin.len_, ha, underlying, hu, hv, goInt, h0]
        · simp [execOp, resolve, invoke, builtin, Builtin.len_, ha, underlying, hu, hv, goInt, Int.toNat_of_nonneg g1]
    · rename_i q hu hs
      obtain ⟨x, rfl, hx1⟩ := one _ hs
      refine Snd.bind (newI_snd _) fun z hz => Snd.pure fun β ac w hx hh hq => ?_
      obtain ⟨str, hv, g2, g3⟩ := mt_cell hx1 (rs_mt hΓ (hx x (hops x (by simp))))
      have hzd : z.d ρ = (str.size : Int) := by rw [hz]; simp only [RI.d, g2, encS_len, Nat.div_one]
      refine ⟨.int .i64 (z.d ρ), ?_, mt_of_cell ⟨rfl, by rw [hzd]; exact g3⟩⟩
      rw [hzd]
      cases ha : argTypes[0]? with
      | none => rw [ha] at hu; simp at hu
      | some t =>
        rw [ha] at hu
        simp only [Option.bind_some] at hu
        simp [execOp, resolve, invoke, builtin, Builtin.len_, ha, underlying, hu, hv, goInt]
    · exact Snd.fail
  · exact Snd.fail

/-! ### Literals -/
def setAt (l : List C) (off : Nat) (new : List C) : List C := l.take off ++ new ++ l.drop (off + new.length)
theorem mtL_append {β : Beta} : ∀ {l m : List C} {vs us : List Value}, mtL β ρ l vs → mtL β ρ m us → mtL β ρ (l ++ m) (vs ++ us)
  | [], _, [], _, _, h => h
  | _ :: _, _, _ :: _, _, ⟨h1, h2⟩, h => ⟨h1, mtL_append h2 h⟩
theorem mtL_setAt {β : Beta} {l : List C} {vs : List Value} {off : Nat} {new : List C} {us : List Value} (h : mtL β ρ l vs) (hn : mtL β ρ new us) :
    mtL β ρ (setAt l off new) (vs.take off ++ us ++ vs.drop (off + us.length)) := by
  unfold setAt
  rw [mtL_length hn]
  exact mtL_append (mtL_append (mtL_take _ h) hn) (mtL_drop _ h)
def S.cells : S → Option (List C)
  | .one _ l => some l
  | _ => none
def xFill (place : Nat → Option (Nat × Nat)) (cells : List C) : List (Nat × S) → Option (List C)
  | [] => some cells
  | (i, s) :: rest => match place i, s.cells with
    | some (off, size), some l => if l.length == size && Nat.ble (off + size) cells.length then xFill place (setAt cells off l) rest else none
    | _, _ => none
theorem foldl_set (off : Nat) : ∀ (vs : List Value) (k : Nat) (cs : Array Value), off + k + vs.length ≤ cs.size →
    ((vs.zipIdx k).foldl (fun (cs : Array Value) (p : Value × Nat) => cs.setIfInBounds (off + p.2) p.1) cs).toList = cs.toList.take (off + k) ++ vs ++ cs.toList.drop (off + k + vs.length)
  | [], k, cs, h => by simp
  | v :: vs, k, cs, h => by
    simp only [List.length_cons] at h
    rw [List.zipIdx_cons, List.foldl_cons, foldl_set off vs (k + 1) _ (by simp; omega)]
    simp only [Array.toList_setIfInBounds, List.length_cons]
    have hlt : off + k < cs.toList.length := by simp; omega
    rw [List.take_set, List.drop_set, if_pos (by omega)]
    rw [show off + (k + 1) = (off + k) + 1 by omega, List.take_succ_eq_append_getElem hlt, List.set_append]
    simp only [List.length_take, Nat.min_eq_left (Nat.le_of_lt hlt), Nat.lt_irrefl, if_false, Nat.sub_self, List.set_cons_zero, List.append_assoc, List.cons_append, List.nil_append]
    rw [show off + k + 1 + vs.length = off + k + (vs.length + 1) by omega]
theorem fill_spec {place : Nat → Option (Nat × Nat)} {β : Beta} : ∀ {parts : List (Nat × S)} {vals : List (Nat × Value)} {cells : List C} {vs : Array Value} {out : List C},
    xFill place cells parts = some out → (parts.length = vals.length ∧ ∀ (j i : Nat) (s : S) (v : Value), parts[j]? = some (i, s) → ∀ (i' : Nat), vals[j]? = some (i', v) → i' = i ∧ s.mt β ρ v) → mtL β ρ cells vs.toList →
    ∃ us, Instr.fill place vs vals = some us ∧ mtL β ρ out us.toList
  | [], vals, cells, vs, out, h, hp, hm => by
    have : vals = [] := by cases vals; rfl; simp at hp
    subst this
    simp only [xFill, Option.some.injEq] at h
    subst h
    exact ⟨vs, rfl, hm⟩
  | (i, s) :: parts, vals, cells, vs, out, h, hp, hm => by
    cases vals with
    | nil => simp at hp
    | cons p vals =>
      obtain ⟨i', v⟩ := p
      obtain ⟨hlen, hp⟩ := hp
      obtain ⟨rfl, hsv⟩ := hp 0 i s v (by simp) i' (by simp)
      unfold xFill at h
      split at h
      · rename_i off size l h1 h2
        split at h
        · rename_i hc
          simp only [Bool.and_eq_true, beq_iff_eq, Nat.ble_eq] at hc
          obtain ⟨hc1, hc2⟩ := hc
          cases s with
          | one agg l' =>
            simp only [S.cells, Option.some.injEq] at h2
            subst h2
            have hml := mtL_cells hsv
            have hl2 := mtL_length hml
            have hl3 := mtL_length hm
            have hsz : v.cells.size = size := by rw [← Array.length_toList]; omega
            have e2 : vs.toList.length = vs.size := Array.length_toList
            have e3 : v.cells.toList.length = v.cells.size := Array.length_toList
            have hle : off + 0 + v.cells.toList.length ≤ vs.size := by rw [e3, hsz]; omega
            have key := foldl_set off v.cells.toList 0 vs hle
            obtain ⟨us, hus, hum⟩ := fill_spec (vals := vals) (vs := v.cells.zipIdx.foldl (fun cs (c, j) => cs.setIfInBounds (off + j) c) vs) h
              ⟨by simpa using hlen, fun j a b c hj i' hv => hp (j + 1) a b c (by simpa using hj) i' (by simpa using hv)⟩ (by
                rw [← Array.foldl_toList, Array.toList_zipIdx, key, Nat.add_zero]
                have := mtL_setAt (off := off) hm hml
                exact this)
            refine ⟨us, ?_, hum⟩
            unfold Instr.fill
            rw [h1]
            simp only
            have hno : ¬ ((decide (v.cells.size ≠ size) || decide (off + v.cells.size > vs.size)) = true) := by simp; omega
            rw [if_neg hno]
            exact hus
          | tup _ => simp [S.cells] at h2
          | any => simp [S.cells] at h2
        · cases h
      · cases h

def zeroC (P : Program) (t : TypeId) : Option (List C) :=
  match (P.info? t).bind (·.zero) with
  | some v => if v.cells.toList.all oneCell then some (v.cells.toList.map ofC) else none
  | none => none
theorem zeroC_spec {t : TypeId} {l : List C} (h : zeroC P t = some l) (w : World) : ∃ v, (zeroValue t).run P w = .ok v w ∧ ∀ β, mtL β ρ l v.cells.toList := by
  unfold zeroC at h
  split at h
  · rename_i v hv
    split at h
    · rename_i ha
      simp only [Option.some.injEq] at h
      subst h
      cases hi : P.info? t with
      | none => rw [hi] at hv; simp at hv
      | some i =>
        rw [hi] at hv
        simp only [Option.bind_some] at hv
        exact ⟨v, by simp [zeroValue, typeInfo, hi, hv], fun β => mtL_ofC ha⟩
    · cases h
  · cases h

def sizeN (P : Program) (t : TypeId) : Option Nat := (P.info? t).map (·.size)
theorem sizeN_spec {t : TypeId} {n : Nat} (h : sizeN P t = some n) (w : World) : (sizeOf t).run P w = .ok n w := by
  unfold sizeN at h
  cases hi : P.info? t with
  | none => rw [hi] at h; simp at h
  | some i => rw [hi] at h; simp at h; simp [sizeOf, typeInfo, hi, h]
def structPlaces (P : Program) : List Field → Option (List (Nat × Nat))
  | [] => some []
  | f :: fs => match sizeN P f.type, structPlaces P fs with
    | some n, some r => some ((f.offset, n) :: r)
    | _, _ => none
theorem structPlaces_spec : ∀ {fs : List Field} {r : List (Nat × Nat)}, structPlaces P fs = some r → ∀ w, (fs.mapM fun f => do pure (f.offset, ← sizeOf f.type) : Sem (List (Nat × Nat))).run P w = .ok r w
  | [], r, h, w => by simp [structPlaces] at h; subst h; rfl
  | f :: fs, r, h, w => by
    unfold structPlaces at h
    split at h
    · rename_i n r' h1 h2
      simp only [Option.some.injEq] at h
      subst h
      rw [List.mapM_cons]
      simp only [Sem.run_bind, sizeN_spec h1 w, Result.andThen_ok, Sem.run_pure, structPlaces_spec h2 w]
    · cases h
def xBuild (P : Program) (t : TypeId) (parts : List (Nat × S)) : M S := do
  let z ← lift (zeroC P t)
  match P.underlying t with
  | some (.struct fs) => do
    let pl ← lift (structPlaces P fs.toList)
    pure (.one true (← lift (xFill (fun i => pl[i]?) z parts)))
  | some (.array _ e) => do
    let s ← lift (sizeN P e)
    pure (.one true (← lift (xFill (fun i => some (i * s, s)) z parts)))
  | _ => M.fail
theorem partsMt {β : Beta} {ac : Act} {parts : List (Nat × Operand)} (hΓ : Gd.d ρ Γ = true) (h : ∀ x, x ∈ parts.map (·.2) → (rv x).mt β ρ (ac.eval x)) :
    (parts.map fun p => (p.1, rs Γ (rv p.2))).length = (parts.map fun (i, x) => (i, ac.eval x)).length ∧ ∀ (j i : Nat) (s : S) (v : Value), (parts.map fun p => (p.1, rs Γ (rv p.2)))[j]? = some (i, s) → ∀ (i' : Nat), (parts.map fun (i, x) => (i, ac.eval x))[j]? = some (i', v) → i' = i ∧ s.mt β ρ v := by
  refine ⟨by simp, fun j i s v hj i' hv => ?_⟩
  rw [List.getElem?_map] at hj hv
  cases hp : parts[j]? with
  | none => rw [hp] at hj; simp at hj
  | some p =>
    rw [hp] at hj hv
    simp only [Option.map_some, Option.some.injEq, Prod.mk.injEq] at hj hv
    obtain ⟨rfl, rfl⟩ := hj
    obtain ⟨rfl, rfl⟩ := hv
    exact ⟨rfl, rs_mt hΓ (h _ (List.mem_map.2 ⟨p, List.mem_of_getElem? hp, rfl⟩))⟩
theorem pure_build (hΓ : Gd.d ρ Γ = true) (t : TypeId) (parts : Array (Nat × Operand)) :
    Snd Φ ρ (xBuild P t (parts.toList.map fun p => (p.1, rs Γ (rv p.2)))) (Pure P Γ hp rv ⟨dst, .build t parts, ty, pos, after, guard⟩ ρ) := by
  unfold xBuild
  refine Snd.bind (lift_snd _) fun z hz => ?_
  split
  · rename_i fs hu
    refine Snd.bind (lift_snd _) fun pl hpl => Snd.bind (lift_snd _) fun out hout => Snd.pure fun β ac w hx hh hq => ?_
    obtain ⟨v, hv, hvm⟩ := zeroC_spec (ρ := ρ) hz w
    obtain ⟨us, hus, hum⟩ := fill_spec (β := β) (vs := v.cells) hout (partsMt hΓ fun x hxm => hx x (by simpa [Op.operands] using hxm)) (hvm β)
    refine ⟨.agg us, ?_, us, rfl, hum⟩
    have hm : (fs.mapM fun f => do pure (f.offset, ← sizeOf f.type) : Sem (Array (Nat × Nat))).run P w = .ok pl.toArray w := by
      rw [Array.mapM_eq_mapM_toList, Sem.run_map, structPlaces_spec hpl w]
      rfl
    have hpl2 : (fun (i : Nat) => pl.toArray[i]?) = fun (i : Nat) => pl[i]? := by funext i; simp
    simp only [execOp, Instr.build, Sem.run_bind, hv, Result.andThen_ok, underlying, run_program, hu, Sem.run_pure, hm]
    rw [hpl2]
    simp only [Array.toList_map]
    rw [hus]
    simp
  · rename_i n e hu
    refine Snd.bind (lift_snd _) fun s hs => Snd.bind (lift_snd _) fun out hout => Snd.pure fun β ac w hx hh hq => ?_
    obtain ⟨v, hv, hvm⟩ := zeroC_spec (ρ := ρ) hz w
    obtain ⟨us, hus, hum⟩ := fill_spec (β := β) (vs := v.cells) hout (partsMt hΓ fun x hxm => hx x (by simpa [Op.operands] using hxm)) (hvm β)
    refine ⟨.agg us, ?_, us, rfl, hum⟩
    simp only [execOp, Instr.build, Sem.run_bind, hv, Result.andThen_ok, underlying, run_program, hu, Sem.run_pure, sizeN_spec hs w]
    simp only [Array.toList_map]
    rw [hus]
    simp
  · exact Snd.fail
end ops
end Go.Proofs.YtalnndmnnffnmaaGreat.Sx
