/-
  SX, part F: '==' on structs and arrays; indexing; min, max, len. No condition.
-/
import Derived.Test.YtalnndmnnffnmaaGreatSxE
set_option linter.unusedVariables false
set_option linter.unusedSimpArgs false
namespace Go.Proofs.YtalnndmnnffnmaaGreat.Sx
open Go

/-! ### '==' -/
def xPart2 (P : Program) (t : TypeId) (l : List C) (off : Nat) : Option (Bool × List C) :=
  match tyN P t with
  | some (agg, n) => if Nat.ble (off + n) l.length then some (agg, (l.drop off).take n) else none
  | none => none
theorem xPart2_spec {P : Program} {t : TypeId} {l : List C} {off : Nat} {p : Bool × List C} (h : xPart2 P t l off = some p) : xPart P t l off = some (.one p.1 p.2) := by
  unfold xPart2 at h
  unfold xPart
  split at h
  · rename_i ht
    split at h
    · simp only [Option.some.injEq] at h; subst h; rename_i hle; rw [ht]; simp only []; rw [if_pos hle]
    · cases h
  · cases h

theorem encS_beq (s t : ByteArray) : (encS s == encS t) = (s.toList == t.toList) := by
  rw [Bool.eq_iff_iff, beq_iff_eq, beq_iff_eq]
  constructor
  · intro h; rw [encS_inj h]
  · intro h
    have : s = t := by
      have h2 : s.data.toList = t.data.toList := by simpa [ByteArray.toList_eq] using h
      cases s; cases t; congr 1; exact Array.toList_inj.1 h2
    rw [this]
def isFuncT (P : Program) (t : TypeId) : Bool := match P.underlying t with | some (.func _ _ _) => true | _ => false
abbrev EqF := TypeId → Bool × List C → Bool × List C → M B
def eqFs (P : Program) (go : EqF) (xs ys : List C) : List Field → M B
  | [] => pure (.c true)
  | f :: fs => if f.name == "_" then M.fail else do
    let a ← lift (xPart2 P f.type xs f.offset)
    let b ← lift (xPart2 P f.type ys f.offset)
    let r ← go f.type a b
    let s ← eqFs P go xs ys fs
    mkAnd r s
def eqAs (P : Program) (go : EqF) (e : TypeId) (s : Nat) (xs ys : List C) : Nat → Nat → M B
  | _, 0 => pure (.c true)
  | i, n + 1 => do
    let a ← lift (xPart2 P e xs (i * s))
    let b ← lift (xPart2 P e ys (i * s))
    let r ← go e a b
    let q ← eqAs P go e s xs ys (i + 1) n
    mkAnd r q
def eqX (P : Program) : Nat → EqF
  | 0 => fun _ _ _ => M.fail
  | d + 1 => fun t x y =>
    match P.underlying t with
    | some .bool => match x, y with
      | (false, [.bool a]), (false, [.bool b]) => mkEqb a b
      | _, _ => M.fail
    | some (.int _) => match x, y with
      | (false, [.int k a]), (false, [.int l b]) => if k == l then mkCm .eql a b else M.fail
      | _, _ => M.fail
    | some .string => match x, y with
      | (false, [c]), (false, [d]) => match asStr c, asStr d with
        | some p, some q => mkCm .eql p q
        | _, _ => M.fail
      | _, _ => M.fail
    | some (.struct fs) => match x, y with
      | (true, xs), (true, ys) => if P.stoodInHeld t then M.fail else eqFs P (eqX P d) xs ys fs.toList
      | _, _ => M.fail
    | some (.array n e) => match x, y, tyN P e with
      | (true, xs), (true, ys), some (_, s) => eqAs P (eqX P d) e s xs ys 0 n
      | _, _, _ => M.fail
    | _ => M.fail

def eqElems (d : Nat) (e : TypeId) (s : Nat) (xs ys : Array Value) : Nat → Nat → Sem Bool
  | _, 0 => pure true
  | i, n + 1 => do
    let a ← part e xs (i * s)
    let b ← part e ys (i * s)
    let r ← Op.equalIn d e a b
    if (!r) = true then pure false else eqElems d e s xs ys (i + 1) n
theorem run_equalIn_array {P : Program} (d : Nat) (t e : TypeId) (n s : Nat) (xs ys : Array Value) (ht : P.underlying t = some (.array n e)) (w : World) (hs : (sizeOf e).run P w = .ok s w) :
    (Op.equalIn (d + 1) t (.agg xs) (.agg ys)).run P w = (eqElems d e s xs ys 0 n).run P w := by
  simp only [Op.equalIn, Sem.run_bind, run_underlying ht, Result.andThen_ok, hs]
  simp only [Std.Legacy.Range.forIn_eq_forIn_range', Std.Legacy.Range.size, Nat.sub_zero, Nat.add_one_sub_one, Nat.div_one]
  clear ht hs
  generalize 0 = i
  induction n generalizing i w with
  | zero => simp [eqElems]
  | succ n ih =>
    simp only [List.range'_succ, List.forIn_cons, eqElems, Sem.run_bind, Sem.run_ite]
    generalize (part e xs (i * s)).run P w = r1
    cases r1 with
    | ok a w1 =>
      simp only [Result.andThen_ok]
      generalize (part e ys (i * s)).run P w1 = r2
      cases r2 with
      | ok b w2 =>
        simp only [Result.andThen_ok]
        generalize (Op.equalIn d e a b).run P w2 = r3
        cases r3 with
        | ok r w3 =>
          cases r
          · simp only [Result.andThen_ok, Bool.not_false, if_true, Sem.run_pure]
          · simp only [Result.andThen_ok, Bool.not_true, Bool.false_eq_true, if_false, Sem.run_pure]
            exact ih w3 (i + 1)
        | halt x w3 => simp [Result.andThen]
      | halt x w2 => simp [Result.andThen]
    | halt x w1 => simp [Result.andThen]

section ops
variable {P : Program} {Φ : Funs} {Γ : Gd} {hp : Hp} {rv : Operand → SV} {dst : Option Tmp} {ty : TypeId} {pos : String} {after : Array Edge} {guard : Option (Nat × Bool)} {ρ : Env}

def EqOk (P : Program) (ρ : Env) (d : Nat) (t : TypeId) (x y : Bool × List C) (b : B) : Prop :=
  ∀ (e : Nat) (β : Beta) (v u : Value) (w : World), mt1 β ρ x.1 x.2 v → mt1 β ρ y.1 y.2 u → (Op.equalIn (d + e) t v u).run P w = .ok (b.d ρ) w

theorem eqFs_snd {go : EqF} {d : Nat} (hgo : ∀ t x y, Snd Φ ρ (go t x y) (EqOk P ρ d t x y)) (xs ys : List C) : ∀ fs : List Field,
    Snd Φ ρ (eqFs P go xs ys fs) (fun b => ∀ (e : Nat) (β : Beta) (vs us : List Value) (w : World), mtL β ρ xs vs → mtL β ρ ys us → (Op.eqFields (d + e) vs.toArray us.toArray fs).run P w = .ok (b.d ρ) w)
  | [] => Snd.pure fun e β vs us w _ _ => rfl
  | f :: fs => by
    unfold eqFs
    split
    · exact Snd.fail
    · rename_i hn
      simp only [beq_iff_eq] at hn
      refine Snd.bind (lift_snd _) fun a ha => Snd.bind (lift_snd _) fun b hb => Snd.bind (hgo _ _ _) fun r hr => Snd.bind (eqFs_snd hgo xs ys fs) fun s hs => (mkAnd_snd r s).mono fun z hz => ?_
      intro e β vs us w hx hy
      obtain ⟨v, hv, hvm⟩ := run_part (xPart2_spec ha) hx w
      obtain ⟨u, hu, hum⟩ := run_part (xPart2_spec hb) hy w
      have h1 := hr e β v u w hvm hum
      have h2 := hs e β vs us w hx hy
      unfold Op.eqFields
      rw [if_pos hn]
      simp only [Sem.run_bind, hv, Result.andThen_ok, hu, h1, Sem.run_ite, Sem.run_pure, h2, hz]
      cases r.d ρ <;> simp
theorem eqAs_snd {go : EqF} {d : Nat} (hgo : ∀ t x y, Snd Φ ρ (go t x y) (EqOk P ρ d t x y)) (el : TypeId) (sz : Nat) (xs ys : List C) : ∀ (n i : Nat),
    Snd Φ ρ (eqAs P go el sz xs ys i n) (fun b => ∀ (e : Nat) (β : Beta) (vs us : List Value) (w : World), mtL β ρ xs vs → mtL β ρ ys us → (eqElems (d + e) el sz vs.toArray us.toArray i n).run P w = .ok (b.d ρ) w)
  | 0, i => Snd.pure fun e β vs us w _ _ => rfl
  | n + 1, i => by
    unfold eqAs
    refine Snd.bind (lift_snd _) fun a ha => Snd.bind (lift_snd _) fun b hb => Snd.bind (hgo _ _ _) fun r hr => Snd.bind (eqAs_snd hgo el sz xs ys n (i + 1)) fun s hs => (mkAnd_snd r s).mono fun z hz => ?_
    intro e β vs us w hx hy
    obtain ⟨v, hv, hvm⟩ := run_part (xPart2_spec ha) hx w
    obtain ⟨u, hu, hum⟩ := run_part (xPart2_spec hb) hy w
    have h1 := hr e β v u w hvm hum
    have h2 := hs e β vs us w hx hy
    unfold eqElems
    simp only [Sem.run_bind, hv, Result.andThen_ok, hu, h1, Sem.run_ite, Sem.run_pure, h2, hz]
    cases r.d ρ <;> simp
theorem eqX_snd : ∀ (d : Nat) (t : TypeId) (x y : Bool × List C), Snd Φ ρ (eqX P d t x y) (EqOk P ρ d t x y)
  | 0, _, _, _ => Snd.fail
  | d + 1, t, x, y => by
    unfold eqX
    split
    · rename_i hu
      split
      · rename_i a b
        refine (mkEqb_snd a b).mono fun z hz e β v u w hv hw => ?_
        rw [mt_bool rfl hv, mt_bool rfl hw, show d + 1 + e = (d + e) + 1 by omega, run_equalIn_bool' w _ t _ _ hu, hz]
      · exact Snd.fail
    · rename_i k hu
      split
      · rename_i k1 a k2 b
        split
        · rename_i hk
          simp only [beq_iff_eq] at hk
          subst hk
          refine (mkCm_snd _ a b).mono fun z hz e β v u w hv hw => ?_
          rw [(mt_int rfl hv).1, (mt_int rfl hw).1, show d + 1 + e = (d + e) + 1 by omega, run_equalIn_int w _ t _ k _ _ hu, hz]
          rfl
        · exact Snd.fail
      · exact Snd.fail
    · rename_i hu
      split
      · rename_i c1 c2
        split
        · rename_i p q hp hq
          refine (mkCm_snd _ p q).mono fun z hz e β v u w hv hw => ?_
          obtain ⟨s1, rfl, e1, _⟩ := asStr_mt hp (mt_cell (s := .one false [c1]) rfl hv)
          obtain ⟨s2, rfl, e2, _⟩ := asStr_mt hq (mt_cell (s := .one false [c2]) rfl hw)
          rw [show d + 1 + e = (d + e) + 1 by omega, run_equalIn_string w _ t _ _ hu, hz]
          show _ = Result.ok (p.d ρ == q.d ρ) w
          rw [e1, e2, encS_beq]
        · exact Snd.fail
      · exact Snd.fail
    · rename_i fs hu
      split
      · rename_i xs ys
        split
        · exact Snd.fail
        · rename_i hst
          refine (eqFs_snd (eqX_snd d) xs ys fs.toList).mono fun z hz e β v u w hv hw => ?_
          obtain ⟨vs, rfl, hv⟩ := hv
          obtain ⟨us, rfl, hw⟩ := hw
          have hf : P.fieldsOf t = fs := by simp [Program.fieldsOf, hu]
          rw [show d + 1 + e = (d + e) + 1 by omega, run_equalIn_struct w _ t _ _ (by rw [hf]; exact hu) (by simpa using hst), hf]
          exact hz e β _ _ w hv hw
      · exact Snd.fail
    · rename_i n el hu
      split
      · rename_i xs ys agg s ht
        refine (eqAs_snd (eqX_snd d) el s xs ys n 0).mono fun z hz e β v u w hv hw => ?_
        obtain ⟨vs, rfl, hv⟩ := hv
        obtain ⟨us, rfl, hw⟩ := hw
        rw [show d + 1 + e = (d + e) + 1 by omega, run_equalIn_array _ t el n s _ _ hu w (tyN_isAgg ht w).2.1]
        exact hz e β _ _ w hv hw
      · exact Snd.fail
    · exact Snd.fail

/-- Is a function's value none? -/
def nilF (d : FV) : List (B × FV) → M B
  | [] => pure (.c d.isNone)
  | (b, f) :: l => do
    let r ← nilF d l
    mkIteB b (.c f.isNone) r
theorem nilF_snd (d : FV) : ∀ l : List (B × FV), Snd Φ ρ (nilF d l) (fun z => z.d ρ = (pickF ρ l d).isNone)
  | [] => Snd.pure rfl
  | (b, f) :: l => by
    unfold nilF
    refine Snd.bind (nilF_snd d l) fun r hr => (mkIteB_snd _ _ _).mono fun z hz => ?_
    rw [hz, hr]
    simp only [pickF, B.d_c]
    split <;> rfl
theorem fvMt_nil {β : Beta} {f : FV} {v : Value} (h : fvMt β f v) {t : TypeId} (ht : isFuncT P t = true) (w : World) : (Op.equal t v .nilFunc).run P w = .ok f.isNone w ∧ (∀ op x y, eqGuard op t x y v .nilFunc = pure ()) ∧
    (∀ w, (binOp .eql t v .nilFunc).run P w = (do pure (.bool (← Op.equal t v .nilFunc)) : Sem Value).run P w) ∧ (∀ w, (binOp .neq t v .nilFunc).run P w = (do pure (.bool (!(← Op.equal t v .nilFunc))) : Sem Value).run P w) := by
  unfold isFuncT at ht
  split at ht
  · rename_i a b c hu
    unfold fvMt at h
    split at h
    · subst h
      refine ⟨?_, fun op x y => by cases op <;> rfl, fun w => rfl, fun w => rfl⟩
      unfold Op.equal Op.maxDepth
      rw [show (10000 : Nat) = 9999 + 1 from rfl, Op.equalIn]
      simp [underlying, hu]
    · obtain ⟨vs, rfl, _⟩ := h
      refine ⟨?_, fun op x y => by cases op <;> rfl, fun w => rfl, fun w => rfl⟩
      unfold Op.equal Op.maxDepth
      rw [show (10000 : Nat) = 9999 + 1 from rfl, Op.equalIn]
      simp [underlying, hu]
  · cases ht
def xBinA (P : Program) (op : BinOp) (t : TypeId) (x y : S) : M S :=
  match x, y with
  | .one true xs, .one true ys =>
    if P.eqGuardType P.depth t then M.fail else do
    let e ← eqX P 20 t (true, xs) (true, ys)
    match op with
    | .eql => pure (.one false [.bool e])
    | .neq => do pure (.one false [.bool (← mkNot e)])
    | _ => M.fail
  | .one false [c], .one false [d] => match asStr c, asStr d with
    | some p, some q => match op with
      | .eql => do pure (.one false [.bool (← mkCm .eql p q)])
      | .neq => do pure (.one false [.bool (← mkCm .neq p q)])
      | _ => M.fail
    | _, _ => match asFn c, d with
      | some p, .val .nilFunc => if isFuncT P t then match op with
          | .eql => do pure (.one false [.bool (← nilF p.2 p.1)])
          | .neq => do pure (.one false [.bool (← mkNot (← nilF p.2 p.1))])
          | _ => M.fail
        else M.fail
      | _, _ => xBin P op t (.one false [c]) (.one false [d])
  | x, y => xBin P op t x y
theorem pure_binA (hΓ : Gd.d ρ Γ = true) (op : BinOp) (t t' : TypeId) (x y : Operand) :
    Snd Φ ρ (xBinA P op t (rs Γ (rv x)) (rs Γ (rv y))) (Pure P Γ hp rv ⟨dst, .binOp op t x y t', ty, pos, after, guard⟩ ρ) := by
  unfold xBinA
  split
  · rename_i xs ys h1 h2
    split
    · exact Snd.fail
    · rename_i hg
      have hg' : P.eqGuardType P.depth t = false := by simpa using hg
      refine Snd.bind (eqX_snd 20 t _ _) fun b hb => ?_
      have key : ∀ (β : Beta) (ac : Act) (w : World), (rv x).mt β ρ (ac.eval x) → (rv y).mt β ρ (ac.eval y) → ∃ vs us, ac.eval x = .agg vs ∧ ac.eval y = .agg us ∧ (Op.equalIn 10000 t (.agg vs) (.agg us)).run P w = .ok (b.d ρ) w := by
        intro β ac w hx hy
        have mx := rs_mt hΓ hx
        have my := rs_mt hΓ hy
        rw [h1] at mx
        rw [h2] at my
        obtain ⟨vs, hv, hvl⟩ := mx
        obtain ⟨us, hu, hul⟩ := my
        exact ⟨vs, us, hv, hu, hb 9980 β _ _ w ⟨vs, rfl, hvl⟩ ⟨us, rfl, hul⟩⟩
      split
      · refine Snd.pure fun β ac w hx hh hq => ?_
        obtain ⟨vs, us, hv, hu, he⟩ := key β ac w (hx x (by simp [Op.operands])) (hx y (by simp [Op.operands]))
        exact ⟨_, by simp only [execOp, Sem.run_bind, hv, hu, run_eqGuard_agg w _ t x y vs us hg', Result.andThen_ok, run_eql_struct, he, Sem.run_pure], S.mt_b⟩
      · refine Snd.bind (mkNot_snd b) fun z hz => Snd.pure fun β ac w hx hh hq => ?_
        obtain ⟨vs, us, hv, hu, he⟩ := key β ac w (hx x (by simp [Op.operands])) (hx y (by simp [Op.operands]))
        exact ⟨_, by simp only [execOp, Sem.run_bind, hv, hu, run_eqGuard_agg w _ t x y vs us hg', Result.andThen_ok, run_neq_struct, he, Sem.run_pure, ← hz], S.mt_b⟩
      · exact Snd.fail
  · rename_i c d h1 h2
    split
    · rename_i p q hp hq
      have key : ∀ (β : Beta) (ac : Act), (rv x).mt β ρ (ac.eval x) → (rv y).mt β ρ (ac.eval y) → ∃ s u : ByteArray, ac.eval x = .string s ∧ ac.eval y = .string u ∧ p.d ρ = encS s ∧ q.d ρ = encS u := by
        intro β ac hx hy
        obtain ⟨s, e1, e2, _⟩ := asStr_mt hp (mt_cell h1 (rs_mt hΓ hx))
        obtain ⟨u, e3, e4, _⟩ := asStr_mt hq (mt_cell h2 (rs_mt hΓ hy))
        exact ⟨s, u, e1, e3, e2, e4⟩
      split
      · refine Snd.bind (mkCm_snd _ p q) fun z hz => Snd.pure fun β ac w hx hh hq => ?_
        obtain ⟨s, u, e1, e2, e3, e4⟩ := key β ac (hx x (by simp [Op.operands])) (hx y (by simp [Op.operands]))
        refine ⟨.bool (z.d ρ), ?_, S.mt_b⟩
        have hz' : z.d ρ = (s.toList == u.toList) := by rw [hz, ← encS_beq, ← e3, ← e4]; rfl
        rw [hz']
        simp [execOp, e1, e2, eqGuard, binOp, Op.stringOp]
      · refine Snd.bind (mkCm_snd _ p q) fun z hz => Snd.pure fun β ac w hx hh hq => ?_
        obtain ⟨s, u, e1, e2, e3, e4⟩ := key β ac (hx x (by simp [Op.operands])) (hx y (by simp [Op.operands]))
        refine ⟨.bool (z.d ρ), ?_, S.mt_b⟩
        have hz' : z.d ρ = !(s.toList == u.toList) := by rw [hz, ← encS_beq, ← e3, ← e4]; rfl
        rw [hz']
        simp [execOp, e1, e2, eqGuard, binOp, Op.stringOp]
      · exact Snd.fail
    · split
      · rename_i p hp _
        split
        · rename_i hft
          have key : ∀ (β : Beta) (ac : Act), (rv x).mt β ρ (ac.eval x) → (rv y).mt β ρ (ac.eval y) → fvMt β (pickF ρ p.1 p.2) (ac.eval x) ∧ ac.eval y = .nilFunc := by
            intro β ac hx hy
            exact ⟨asFn_mt hp (mt_cell h1 (rs_mt hΓ hx)), (mt_cell h2 (rs_mt hΓ hy)).1⟩
          split
          · refine Snd.bind (nilF_snd _ _) fun z hz => Snd.pure fun β ac w hx hh hq => ?_
            obtain ⟨e1, e2⟩ := key β ac (hx x (by simp [Op.operands])) (hx y (by simp [Op.operands]))
            obtain ⟨g1, g2, g3, g4⟩ := fvMt_nil e1 hft w
            refine ⟨.bool (z.d ρ), ?_, S.mt_b⟩
            simp only [execOp, Sem.run_bind, e2, g2, Sem.run_pure, Result.andThen_ok, g3, g1, hz]
          · refine Snd.bind (nilF_snd _ _) fun z hz => Snd.bind (mkNot_snd z) fun z' hz' => Snd.pure fun β ac w hx hh hq => ?_
            obtain ⟨e1, e2⟩ := key β ac (hx x (by simp [Op.operands])) (hx y (by simp [Op.operands]))
            obtain ⟨g1, g2, g3, g4⟩ := fvMt_nil e1 hft w
            refine ⟨.bool (z'.d ρ), ?_, S.mt_b⟩
            simp only [execOp, Sem.run_bind, e2, g2, Sem.run_pure, Result.andThen_ok, g4, g1, hz', hz]
          · exact Snd.fail
        · exact Snd.fail
      · rw [← h1, ← h2]
        exact pure_bin hΓ op t t' x y
  · exact pure_bin hΓ op t t' x y

/-! ### Indexing -/
def litIdx (a : A) (len : Nat) : Option (Option Nat) :=
  match a with
  | .c (.ofNat i) => if Nat.blt i len then some (some i) else none
  | .c (.negSucc _) => none
  | .v _ => some none
def xIdxC (c : C) (a : A) (s len : Nat) : M C :=
  match a, c with
  | .c (.ofNat i), c => if Nat.blt i len then lift (ptrAdd (i * s) c) else M.fail
  | .v n, .ptr [] id off => do
    let b1 ← mkCm .geq (.v n) (.c 0)
    oblige b1
    let b2 ← mkCm .lss (.v n) (.c len)
    oblige b2
    pure (.pix id off s len (.v n) 0)
  | _, _ => M.fail
theorem xIdxC_snd (c : C) (a : A) (s len : Nat) : Snd Φ ρ (xIdxC c a s len) (fun d => 0 ≤ a.d ρ ∧ a.d ρ < len ∧ ∀ β v, c.mt β ρ v → ∃ b o, v = .pointer (some ⟨b, o, none⟩) ∧ d.mt β ρ (.pointer (some ⟨b, o + (a.d ρ).toNat * s, none⟩))) := by
  unfold xIdxC
  split
  · rename_i i
    split
    · rename_i hlt
      simp only [Nat.blt_eq] at hlt
      refine (lift_snd _).mono fun d hd => ⟨by simp, by simp; omega, fun β v hv => ?_⟩
      obtain ⟨b, o, h1, h2⟩ := ptrAdd_mt hd hv
      exact ⟨b, o, h1, by simpa using h2⟩
    · exact Snd.fail
  · rename_i n id off
    refine Snd.bind (mkCm_snd _ _ _) fun b1 h1 => Snd.bind (oblige_snd b1) fun _ h2 => Snd.bind (mkCm_snd _ _ _) fun b2 h3 => Snd.bind (oblige_snd b2) fun _ h4 => Snd.pure ?_
    rw [h1] at h2
    rw [h3] at h4
    replace h2 : 0 ≤ (A.v n).d ρ := of_decide_eq_true h2
    replace h4 : (A.v n).d ρ < len := of_decide_eq_true h4
    refine ⟨h2, h4, fun β v hv => ?_⟩
    obtain ⟨r, hr, hv⟩ := hv
    exact ⟨_, _, hv, h2, h4, r, hr, by simp only [pick]; congr 3; omega⟩
  · exact Snd.fail

def xIndexAddr (P : Program) (t : TypeId) (x ix : S) : M S :=
  match P.underlying t, x, ix with
  | some (.array len e), .one false [c], .one false [.int _ a] => do
    let (_, s) ← lift (tyN P e)
    pure (.one false [← xIdxC c a s len])
  | some (.slice e), .one false [.sli id off len cap], .one false [.int _ a] => do
    let (_, s) ← lift (tyN P e)
    pure (.one false [← xIdxC (.ptr [] id off) a s len])
  | some (.slice e), .one false [.slx id ks q len], .one false [.int _ a] => do
    let (_, s) ← lift (tyN P e)
    if s == ks.length then do
      let b1 ← mkCm .geq a (.c 0)
      oblige b1
      let b2 ← mkCm .lss a len
      oblige b2
      pure (.one false [.pxq id ks q a 0])
    else M.fail
  | _, _, _ => M.fail
theorem pure_indexAddr (hΓ : Gd.d ρ Γ = true) (t : TypeId) (x ix : Operand) :
    Snd Φ ρ (xIndexAddr P t (rs Γ (rv x)) (rs Γ (rv ix))) (Pure P Γ hp rv ⟨dst, .indexAddr t x ix, ty, pos, after, guard⟩ ρ) := by
  unfold xIndexAddr
  split
  · rename_i len e c k a hu h1 h2
    refine Snd.bind (lift_snd _) fun p ht => ?_
    obtain ⟨agg, s⟩ := p
    refine Snd.bind (xIdxC_snd _ _ _ _) fun d hd => Snd.pure fun β ac w hx hh hq => ?_
    obtain ⟨g1, g2, g3⟩ := hd
    obtain ⟨b, o, hv, hm⟩ := g3 β _ (mt_cell h1 (rs_mt hΓ (hx x (by simp [Op.operands]))))
    have hi := (mt_int h2 (rs_mt hΓ (hx ix (by simp [Op.operands])))).1
    refine ⟨_, ?_, mt_of_cell hm⟩
    simp [execOp, Instr.indexAt, hi, asIntOf, underlying, hu, Instr.sureAddr, hv, g1, g2, (tyN_isAgg ht w).2.1, add_lit]
  · rename_i e id off len cap k a hu h1 h2
    refine Snd.bind (lift_snd _) fun p ht => ?_
    obtain ⟨agg, s⟩ := p
    refine Snd.bind (xIdxC_snd _ _ _ _) fun d hd => Snd.pure fun β ac w hx hh hq => ?_
    obtain ⟨g1, g2, g3⟩ := hd
    obtain ⟨r, hr, hs⟩ := mt_cell h1 (rs_mt hΓ (hx x (by simp [Op.operands])))
    obtain ⟨b, o, hv, hm⟩ := g3 β (.pointer (some ⟨r.blk, r.off + off, none⟩)) ⟨r, hr, rfl⟩
    simp only [Value.pointer.injEq, Option.some.injEq, Addr.mk.injEq, and_true] at hv
    obtain ⟨rfl, rfl⟩ := hv
    have hi := (mt_int h2 (rs_mt hΓ (hx ix (by simp [Op.operands])))).1
    refine ⟨_, ?_, mt_of_cell hm⟩
    simp [execOp, Instr.indexAt, hi, asIntOf, underlying, hu, hs, g1, g2, (tyN_isAgg ht w).2.1, add_lit]
  · rename_i e id ks q len k a hu h1 h2
    refine Snd.bind (lift_snd _) fun p ht => ?_
    obtain ⟨agg, s⟩ := p
    simp only
    split
    · rename_i hs
      simp only [beq_iff_eq] at hs
      subst hs
      refine Snd.bind (mkCm_snd _ _ _) fun b1 e1 => Snd.bind (oblige_snd b1) fun _ e2 => Snd.bind (mkCm_snd _ _ _) fun b2 e3 => Snd.bind (oblige_snd b2) fun _ e4 => Snd.pure fun β ac w hx hh hq => ?_
      rw [e1] at e2
      rw [e3] at e4
      replace e2 : 0 ≤ a.d ρ := of_decide_eq_true e2
      replace e4 : a.d ρ < len.d ρ := of_decide_eq_true e4
      obtain ⟨g1, g2, g3⟩ := mt_cell h1 (rs_mt hΓ (hx x (by simp [Op.operands])))
      have hi := (mt_int h2 (rs_mt hΓ (hx ix (by simp [Op.operands])))).1
      rcases g3 with ⟨_, h0, _⟩ | ⟨r, cap, l, hr, hsq, hqe, _, hl, hs⟩
      · omega
      · have hlt : a.d ρ < ((len.d ρ).toNat : Int) := by omega
        refine ⟨.pointer (some ⟨r.blk, r.off + ((a.d ρ).toNat * ks.length + 0), none⟩), ?_, mt_of_cell ⟨e2, r, l, hr, hsq, hqe, ?_, rfl⟩⟩
        · generalize (len.d ρ).toNat = n at hs hlt
          simp [execOp, Instr.indexAt, hi, asIntOf, underlying, hu, hs, e2, hlt, (tyN_isAgg ht w).2.1, add_lit]
        · rw [hl]
          exact Nat.mul_le_mul_right _ (by omega)
    · exact Snd.fail
  · exact Snd.fail

/-- An array's value, or a known string, at an index. -/
def chunksL (s n : Nat) (l : List C) (i : Nat) : Nat → Option (List (List C))
  | 0 => some []
  | len + 1 => if Nat.ble (i * s + n) l.length then match chunksL s n l (i + 1) len with
    | some xs => some ((l.drop (i * s)).take n :: xs)
    | none => none
    else none
theorem chunksL_spec {s n : Nat} {l : List C} : ∀ {len k : Nat} {xs : List (List C)}, chunksL s n l k len = some xs → xs.length = len ∧ ∀ i, i < len → (k + i) * s + n ≤ l.length ∧ xs[i]? = some ((l.drop ((k + i) * s)).take n)
  | 0, k, xs, h => by simp [chunksL] at h; subst h; exact ⟨rfl, fun i hi => by omega⟩
  | len + 1, k, xs, h => by
    unfold chunksL at h
    split at h
    · rename_i hle
      simp only [Nat.ble_eq] at hle
      split at h
      · rename_i ys h2
        simp only [Option.some.injEq] at h
        subst h
        obtain ⟨g1, g2⟩ := chunksL_spec h2
        refine ⟨by simp [g1], fun i hi => ?_⟩
        cases i with
        | zero => simpa using hle
        | succ i =>
          have := g2 i (by omega)
          rwa [show k + 1 + i = k + (i + 1) by omega] at this
      · cases h
    · cases h

def selLit (a : A) (xs : List (List C)) : M (List C) :=
  match allLit xs with
  | some (kd, ns) => if ns.all (inR kd) then do pure [.int kd (← newI (.tab ns a))] else M.fail
  | none => selL a 0 xs
theorem selLit_snd (a : A) (xs : List (List C)) : Snd Φ ρ (selLit a xs) (fun z => ∀ i : Nat, a.d ρ = i → ∀ x, xs[i]? = some x → ∀ β vs, mtL β ρ x vs → mtL β ρ z vs) := by
  unfold selLit
  split
  · rename_i kd ns hal
    split
    · rename_i hall
      refine Snd.bind (newI_snd _) fun z hz => Snd.pure fun i hi x hx β vs h => ?_
      have hxs2 := allLit_spec hal
      rw [hxs2, List.getElem?_map] at hx
      cases hn : ns[i]? with
      | none => rw [hn] at hx; simp at hx
      | some m =>
        rw [hn] at hx
        simp at hx
        subst hx
        have hzd : z.d ρ = m := by
          rw [hz]; simp only [RI.d, hi, Int.toNat_natCast]
          rw [List.getD_eq_getElem?_getD, hn]; rfl
        have hm : inR kd m = true := (List.all_eq_true.1 hall) m (List.mem_of_getElem? hn)
        unfold inR at hm
        simp at hm
        cases vs with
        | nil => exact h.elim
        | cons v vs =>
          refine ⟨?_, h.2⟩
          have h1 : v = .int kd m ∧ InR kd m := h.1
          show v = .int kd (z.d ρ) ∧ InR kd (z.d ρ)
          rw [hzd]
          exact h1
    · exact Snd.fail
  · refine (selL_snd a xs 0).mono fun z hz i hi x hx => ?_
    have hlt : i < xs.length := (List.getElem?_eq_some_iff.1 hx).1
    exact (hz i hi (by omega) (by omega) x (by simpa using hx)).1

def xIndex (P : Program) (t : TypeId) (x ix : S) : M S :=
  match P.underlying t, x, ix with
  | some (.array len e), .one true l, .one false [.int _ a] => do
    let (agg, s) ← lift (tyN P e)
    match a with
    | .c (.ofNat i) => if Nat.blt i len then lift (xPart P e l (i * s)) else M.fail
    | .c _ => M.fail
    | a => do
      let b1 ← mkCm .geq a (.c 0)
      oblige b1
      let b2 ← mkCm .lss a (.c len)
      oblige b2
      let xs ← lift (chunksL s s l 0 len)
      let z ← selLit a xs
      if agg || z.length == 1 then pure (.one agg z) else M.fail
  | some .string, .one false [.val (.string str)], .one false [.int _ a] =>
    match a with
    | .c (.ofNat i) => match str.data.toList[i]? with
      | some b => pure (.one false [.int .u8 (.c b.toNat)])
      | none => M.fail
    | .c _ => M.fail
    | a => do
      let b1 ← mkCm .geq a (.c 0)
      oblige b1
      let b2 ← mkCm .lss a (.c str.data.toList.length)
      oblige b2
      pure (.one false [.int .u8 (← newI (.tab (str.data.toList.map fun b => (b.toNat : Int)) a))])
  | some .string, .one false [.str q], .one false [.int _ a] => do
    let b1 ← mkCm .geq a (.c 0)
    oblige b1
    let n ← newI (.lenq q 1)
    let b2 ← mkCm .lss a n
    oblige b2
    pure (.one false [.int .u8 (← newI (.get q a 1 0))])
  | _, _, _ => M.fail
theorem encS_len (s : ByteArray) : (dec (encS s)).length = s.size := by
  unfold encS; rw [dec_enc]; unfold bytesI; rw [List.length_map, Array.length_toList]; rfl
theorem byte_inR (b : UInt8) : InR .u8 (b.toNat : Int) := by
  have := b.toNat_lt
  unfold InR IntKind.min IntKind.max
  simp [IntKind.signed, IntKind.bits]
  omega
theorem ba_get (s : ByteArray) (i : Nat) : s[i]? = s.data.toList[i]? := by
  rw [Array.getElem?_toList]
  rcases Nat.lt_or_ge i s.size with h | h
  · rw [getElem?_pos s i h, getElem?_pos s.data i h]; rfl
  · rw [getElem?_neg s i (by simpa using h), getElem?_neg s.data i (by simpa using h)]
theorem pure_index (hΓ : Gd.d ρ Γ = true) (t : TypeId) (x ix : Operand) :
    Snd Φ ρ (xIndex P t (rs Γ (rv x)) (rs Γ (rv ix))) (Pure P Γ hp rv ⟨dst, .index t x ix, ty, pos, after, guard⟩ ρ) := by
  unfold xIndex
  split
  · rename_i len e l k a hu h1 h2
    refine Snd.bind (lift_snd _) fun p ht => ?_
    obtain ⟨agg, s⟩ := p
    simp only
    split
    · rename_i i
      split
      · rename_i hlt
        simp only [Nat.blt_eq] at hlt
        refine (lift_snd _).mono fun q hq β ac w hx hh hq2 => ?_
        have hm := rs_mt hΓ (hx x (by simp [Op.operands]))
        rw [h1] at hm
        obtain ⟨vs, hv, hl⟩ := hm
        obtain ⟨v, hr, hsm⟩ := run_part hq hl w
        have hi := (mt_int h2 (rs_mt hΓ (hx ix (by simp [Op.operands])))).1
        refine ⟨v, ?_, hsm⟩
        simp only [A.d_c] at hi
        simp [execOp, Instr.index, hi, asIntOf, underlying, hu, hv, (tyN_isAgg ht w).2.1, hlt, hr]
      · exact Snd.fail
    · exact Snd.fail
    · refine Snd.bind (mkCm_snd _ _ _) fun b1 g1 => Snd.bind (oblige_snd b1) fun _ g2 => Snd.bind (mkCm_snd _ _ _) fun b2 g3 => Snd.bind (oblige_snd b2) fun _ g4 => Snd.bind (lift_snd _) fun xs hxs => Snd.bind (selLit_snd a xs) fun z hz => ?_
      rw [g1] at g2
      rw [g3] at g4
      replace g2 : 0 ≤ a.d ρ := of_decide_eq_true g2
      replace g4 : a.d ρ < len := of_decide_eq_true g4
      obtain ⟨i, hi⟩ := Int.eq_ofNat_of_zero_le g2
      obtain ⟨c1, c2⟩ := chunksL_spec hxs
      obtain ⟨c3, c4⟩ := c2 i (by omega)
      simp only [Nat.zero_add] at c3 c4
      split
      · rename_i hagg
        refine Snd.pure fun β ac w hx hh hq => ?_
        have hm := rs_mt hΓ (hx x (by simp [Op.operands]))
        rw [h1] at hm
        obtain ⟨vs, hv, hl⟩ := hm
        have hq : xPart P e l (i * s) = some (.one agg ((l.drop (i * s)).take s)) := by
          unfold xPart; rw [ht]; simp only []; rw [if_pos (by simpa using c3)]
        obtain ⟨v, hr, hsm⟩ := run_part hq hl w
        have hie := (mt_int h2 (rs_mt hΓ (hx ix (by simp [Op.operands])))).1
        refine ⟨v, ?_, ?_⟩
        · rw [hi] at hie
          have hlt2 : i < len := by omega
          simp [execOp, Instr.index, hie, asIntOf, underlying, hu, hv, (tyN_isAgg ht w).2.1, hlt2, hr]
        · unfold S.mt mt1 at hsm ⊢
          cases agg
          · simp only [Bool.false_eq_true, if_false] at hsm ⊢
            obtain ⟨c, hc, hcm⟩ := hsm
            have := hz i hi _ c4 β [v] (by rw [hc]; exact ⟨hcm, trivial⟩)
            match z, this with
            | [d], ⟨h, _⟩ => exact ⟨d, rfl, h⟩
          · simp only [if_true] at hsm ⊢
            obtain ⟨us, hus, hul⟩ := hsm
            exact ⟨us, hus, hz i hi _ c4 β _ hul⟩
      · exact Snd.fail
  · rename_i str k a hu h1 h2
    split
    · rename_i i
      split
      · rename_i b hb
        refine Snd.pure fun β ac w hx hh hq => ?_
        have hv := (mt_cell h1 (rs_mt hΓ (hx x (by simp [Op.operands])))).1
        have hi := (mt_int h2 (rs_mt hΓ (hx ix (by simp [Op.operands])))).1
        simp only [A.d_c] at hi
        refine ⟨.int .u8 b.toNat, ?_, mt_of_cell ⟨rfl, byte_inR b⟩⟩
        have hb' : str.data[i]? = some b := by rw [← Array.getElem?_toList]; exact hb
        simp [execOp, Instr.index, hi, asIntOf, underlying, hu, hv, ba_get, hb']
      · exact Snd.fail
    · exact Snd.fail
    · refine Snd.bind (mkCm_snd _ _ _) fun b1 g1 => Snd.bind (oblige_snd b1) fun _ g2 => Snd.bind (mkCm_snd _ _ _) fun b2 g3 => Snd.bind (oblige_snd b2) fun _ g4 => Snd.bind (newI_snd _) fun z hz => Snd.pure fun β ac w hx hh hq => ?_
      rw [g1] at g2
      rw [g3] at g4
      replace g2 : 0 ≤ a.d ρ := of_decide_eq_true g2
      replace g4 : a.d ρ < str.data.toList.length := of_decide_eq_true g4
      obtain ⟨i, hi⟩ := Int.eq_ofNat_of_zero_le g2
      have hv := (mt_cell h1 (rs_mt hΓ (hx x (by simp [Op.operands])))).1
      have hie := (mt_int h2 (rs_mt hΓ (hx ix (by simp [Op.operands])))).1
      rw [hi] at hie
      have hlt : i < str.data.toList.length := by omega
      have hb : str.data.toList[i]? = some str.data.toList[i] := List.getElem?_eq_getElem hlt
      have hzd : z.d ρ = (str.data.toList[i].toNat : Int) := by
        rw [hz]; simp only [RI.d, hi, Int.toNat_natCast]
        rw [List.getD_eq_getElem?_getD, List.getElem?_map, hb]; rfl
      refine ⟨.int .u8 (z.d ρ), ?_, mt_of_cell ⟨rfl, by rw [hzd]; exact byte_inR _⟩⟩
      rw [hzd]
      have hb' : str.data[i]? = some str.data.toList[i] := by rw [← Array.getElem?_toList]; exact hb
      generalize str.data.toList[i] = b at *
      simp [execOp, Instr.index, hie, asIntOf, underlying, hu, hv, ba_get, hb']
  · rename_i q k a hu h1 h2
    refine Snd.bind (mkCm_snd _ _ _) fun b1 g1 => Snd.bind (oblige_snd b1) fun _ g2 => Snd.bind (newI_snd _) fun n hn => Snd.bind (mkCm_snd _ _ _) fun b2 g3 => Snd.bind (oblige_snd b2) fun _ g4 => Snd.bind (newI_snd _) fun z hz => Snd.pure fun β ac w hx hh hq => ?_
    rw [g1] at g2
    rw [g3] at g4
    replace g2 : 0 ≤ a.d ρ := of_decide_eq_true g2
    replace g4 : a.d ρ < n.d ρ := of_decide_eq_true g4
    obtain ⟨i, hi⟩ := Int.eq_ofNat_of_zero_le g2
    obtain ⟨str, hv, hqe, _⟩ := mt_cell h1 (rs_mt hΓ (hx x (by simp [Op.operands])))
    have hie := (mt_int h2 (rs_mt hΓ (hx ix (by simp [Op.operands])))).1
    rw [hi] at hie
    have hlt : i < str.data.toList.length := by
      rw [hn] at g4
      simp only [RI.d, hqe, encS_len, Nat.div_one] at g4
      rw [Array.length_toList]
      show i < str.size
      omega
    have hb : str.data.toList[i]? = some str.data.toList[i] := List.getElem?_eq_getElem hlt
    have hzd : z.d ρ = (str.data.toList[i].toNat : Int) := by
      rw [hz]
      simp only [RI.d, hi, Int.toNat_natCast, hqe, encS, dec_enc, bytesI, Nat.mul_one, Nat.add_zero]
      rw [List.getD_eq_getElem?_getD, List.getElem?_map, hb]; rfl
    refine ⟨.int .u8 (z.d ρ), ?_, mt_of_cell ⟨rfl, by rw [hzd]; exact byte_inR _⟩⟩
    rw [hzd]
    have hb' : str.data[i]? = some str.data.toList[i] := by rw [← Array.getElem?_toList]; exact hb
    generalize str.data.toList[i] = b at *
    simp [execOp, Instr.index, hie, asIntOf, underlying, hu, hv, ba_get, hb']
  · exact Snd.fail

/-! ### min, max, len -/
def allInts : List S → Option (IntKind × List A)
  | [.one false [.int k a]] => some (k, [a])
  | .one false [.int k a] :: r => match allInts r with
    | some (l, as) => if k == l then some (k, a :: as) else none
    | none => none
  | _ => none
def foldA (f : A → A → M A) : A → List A → M A
  | a, [] => pure a
  | a, b :: r => do
    let c ← f a b
    foldA f c r
def xMinMax (mx : Bool) (xs : List S) : M S :=
  match allInts xs with
  | some (k, a :: r) => do pure (.one false [.int k (← foldA (if mx then mkMx else mkMn) a r)])
  | _ => M.fail
end ops
end Go.Proofs.YtalnndmnnffnmaaGreat.Sx
