/-
  SX, part D: the operations that only compute or read. No condition.
-/
import Derived.Test.YtalnndmnnffnmaaGreatSxC
set_option linter.unusedVariables false
set_option linter.unusedSimpArgs false
namespace Go.Proofs.YtalnndmnnffnmaaGreat.Sx
open Go

structure Res where
  s : S
  w : List (Nat × Blk)

/-- An operation, for whatever follows it. -/
def OpG (P : Program) (o : Oper) (a : Act) (w : World) (Post : Value → World → Prop) : Prop :=
  ∀ (next : Act → World → Prop) (Q : Exit → Act → World → Prop), (∀ v w', Post v w' → next (a.put o.dst v) w') → o.wp P a w next Q
section
variable {P : Program} {o : Oper} {a : Act} {w w' : World} {Post : Value → World → Prop}
theorem OpG.value {v : Value} (h : (execOp a.eval o).run P w = .ok (.value v) w') (hp : Post v w') : OpG P o a w Post := by
  intro next Q hn
  unfold Oper.wp
  rw [h]
  exact hn v w' hp
theorem OpG.skip (h : (execOp a.eval o).run P w = .ok .skip w') (hp : Post undef w') : OpG P o a w Post := by
  intro next Q hn
  unfold Oper.wp
  rw [h]
  exact hn undef w' hp
theorem OpG.calls {f : FuncId} {args : Array Value} (h : (execOp a.eval o).run P w = .ok (.enter f args) w')
    (hc : Calls P f args w' fun e w'' => ∃ v, e = .returned v ∧ Post v w'') : OpG P o a w Post := by
  intro next Q hn
  unfold Oper.wp
  rw [h]
  refine Calls.mono hc fun e w'' he => ?_
  obtain ⟨v, rfl, hp⟩ := he
  exact hn v w'' hp
theorem OpG.mono {Post' : Value → World → Prop} (h : OpG P o a w Post) (hp : ∀ v w', Post v w' → Post' v w') : OpG P o a w Post' :=
  fun next Q hn => h next Q fun v w' hv => hn v w' (hp v w' hv)
end

def RPost (N : Nat) (R : List Rg) (ρ : Env) (β : Beta) (w : World) (lo hi : Nat) (res : Res) (v : Value) (w' : World) : Prop :=
  ∃ β', Step N R β w (res.w.map (·.1)) lo hi β' w' ∧ res.s.mt β' ρ v ∧ ∀ p, p ∈ res.w → blkMt β' ρ w' p.1 p.2

/-- What the executor of one operation owes. -/
def LOk (P : Program) (Φ : Funs) (G : Beta → World → Prop) (Γ : Gd) (hp : Hp) (rv : Operand → SV) (o : Oper) (m : M Res) : Prop :=
  ∀ ρ c res c' out, m c = some (res, c', out) → Good Φ ρ out → Gd.d ρ Γ = true → ∀ (N : Nat) (R : List Rg) (β : Beta) (a : Act) (w : World),
    (∀ x, x ∈ o.op.operands → (rv x).mt β ρ (a.eval x)) → heapMt β ρ hp w → BetaOk N R β w → N ≤ w.heap.size → G β w →
    (∀ i, c.id ≤ i → i < c'.id → β i = none) → OpG P o a w (RPost N R ρ β w c.id c'.id res)

theorem LOk.fail {P : Program} {Φ : Funs} {G : Beta → World → Prop} {Γ : Gd} {hp : Hp} {rv : Operand → SV} {o : Oper} : LOk P Φ G Γ hp rv o M.fail :=
  fun _ _ _ _ _ h => by cases h

/-- Operations that yield a value and leave the world. -/
def Pure (P : Program) (Γ : Gd) (hp : Hp) (rv : Operand → SV) (o : Oper) (ρ : Env) (s : S) : Prop :=
  ∀ (β : Beta) (a : Act) (w : World), (∀ x, x ∈ o.op.operands → (rv x).mt β ρ (a.eval x)) → heapMt β ρ hp w → SqOk β w → ∃ v, (execOp a.eval o).run P w = .ok (.value v) w ∧ s.mt β ρ v
theorem LOk.of_pure {P : Program} {Φ : Funs} {G : Beta → World → Prop} {Γ : Gd} {hp : Hp} {rv : Operand → SV} {o : Oper} {m : M S}
    (h : ∀ ρ, Gd.d ρ Γ = true → Snd Φ ρ m (Pure P Γ hp rv o ρ)) : LOk P Φ G Γ hp rv o (do pure { s := ← m, w := [] }) := by
  intro ρ c res c' out he hg hΓ N R β a w hx hh hb hN hG hf
  have h1 : Snd Φ ρ (do pure { s := ← m, w := [] } : M Res) (fun r => r.w = [] ∧ Pure P Γ hp rv o ρ r.s) :=
    Snd.bind (h ρ hΓ) fun s hs => Snd.pure ⟨rfl, hs⟩
  obtain ⟨hw, hs⟩ := h1 c res c' out he hg
  obtain ⟨v, hv, hm⟩ := hs β a w hx hh hb.sq
  refine OpG.value hv ⟨β, Step.refl hb _ _ _, hm, ?_⟩
  rw [hw]
  simp

/-- A slot's content, under conditions that hold. -/
def rs (Γ : Gd) (x : SV) : S := if Gd.sub x.g Γ then x.s else .any
theorem rs_mt {Γ : Gd} {ρ : Env} (hΓ : Gd.d ρ Γ = true) {x : SV} {β : Beta} {v : Value} (h : x.mt β ρ v) : (rs Γ x).mt β ρ v := by
  unfold rs
  split
  · rename_i hs; exact h.1 (Gd.sub_d hs hΓ)
  · trivial

section ops
variable {P : Program} {Φ : Funs} {Γ : Gd} {hp : Hp} {rv : Operand → SV} {dst : Option Tmp} {ty : TypeId} {pos : String} {after : Array Edge} {guard : Option (Nat × Bool)} {ρ : Env}

/-! ### move, assign -/
theorem pure_move (hΓ : Gd.d ρ Γ = true) (x : Operand) : Snd Φ ρ (pure (rs Γ (rv x)) : M S) (Pure P Γ hp rv ⟨dst, .move x, ty, pos, after, guard⟩ ρ) :=
  Snd.pure fun β a w hx hh hq => ⟨_, rfl, rs_mt hΓ (hx x (by simp [Op.operands]))⟩
theorem pure_assign (hΓ : Gd.d ρ Γ = true) (x : Operand) : Snd Φ ρ (pure (rs Γ (rv x)) : M S) (Pure P Γ hp rv ⟨dst, .assign x, ty, pos, after, guard⟩ ρ) :=
  Snd.pure fun β a w hx hh hq => ⟨_, rfl, rs_mt hΓ (hx x (by simp [Op.operands]))⟩

/-! ### pick -/
def xPick (Γ : Gd) (c a b : SV) : M S :=
  match rs Γ c with
  | .one false [.bool k] => match k with
    | .c true => pure (rs Γ a)
    | .c false => pure (rs Γ b)
    | k => muxS k (rs (Γ ++ [(k, true)]) a) (rs (Γ ++ [(k, false)]) b)
  | _ => M.fail
theorem pure_pick (hΓ : Gd.d ρ Γ = true) (c x y : Operand) : Snd Φ ρ (xPick Γ (rv c) (rv x) (rv y)) (Pure P Γ hp rv ⟨dst, .pick c x y, ty, pos, after, guard⟩ ρ) := by
  unfold xPick
  split
  · rename_i k hk
    have key : ∀ β (a : Act), (rv c).mt β ρ (a.eval c) → a.eval c = .bool (k.d ρ) := fun β a h => by
      have := rs_mt hΓ h
      rw [hk] at this
      obtain ⟨d, hd, hm⟩ := this
      simp only [List.cons.injEq, and_true] at hd
      subst hd
      exact hm
    split
    · refine Snd.pure fun β a w hx hh hq => ⟨a.eval x, ?_, rs_mt hΓ (hx x (by simp [Op.operands]))⟩
      simp [execOp, asBool, key β a (hx c (by simp [Op.operands]))]
    · refine Snd.pure fun β a w hx hh hq => ⟨a.eval y, ?_, rs_mt hΓ (hx y (by simp [Op.operands]))⟩
      simp [execOp, asBool, key β a (hx c (by simp [Op.operands]))]
    · refine (muxS_snd k _ _).mono fun z hz => fun β a w hx hh hq => ⟨if k.d ρ then a.eval x else a.eval y, ?_, hz β _ ?_⟩
      · simp [execOp, asBool, key β a (hx c (by simp [Op.operands]))]
      · cases hk2 : k.d ρ
        · simp only [Bool.false_eq_true, if_false]
          exact rs_mt (by simp [hΓ, hk2]) (hx y (by simp [Op.operands]))
        · simp only [if_true]
          exact rs_mt (by simp [hΓ, hk2]) (hx x (by simp [Op.operands]))
  · exact Snd.fail

/-! ### Numbers, bools -/
theorem mt_int {β : Beta} {s : S} {k : IntKind} {a : A} {v : Value} (h : s = .one false [.int k a]) (hm : s.mt β ρ v) : v = .int k (a.d ρ) ∧ InR k (a.d ρ) := by
  subst h
  obtain ⟨d, hd, hm⟩ := hm
  simp only [List.cons.injEq, and_true] at hd
  subst hd
  exact hm
theorem mt_bool {β : Beta} {s : S} {b : B} {v : Value} (h : s = .one false [.bool b]) (hm : s.mt β ρ v) : v = .bool (b.d ρ) := by
  subst h
  obtain ⟨d, hd, hm⟩ := hm
  simp only [List.cons.injEq, and_true] at hd
  subst hd
  exact hm
theorem S.mt_i {β : Beta} {k : IntKind} {a : A} (h : InR k (a.d ρ)) : (S.one false [.int k a]).mt β ρ (.int k (a.d ρ)) := ⟨_, rfl, rfl, h⟩
theorem S.mt_b {β : Beta} {b : B} : (S.one false [.bool b]).mt β ρ (.bool (b.d ρ)) := ⟨_, rfl, rfl⟩

theorem wrap_inR (k : IntKind) (n : Int) : InR k (k.wrap n) := by
  unfold InR IntKind.min IntKind.max IntKind.wrap
  cases k <;> simp only [IntKind.signed, IntKind.bits] <;> (try split) <;> (try simp_all) <;> omega
theorem inR_i64 {n : Int} (h : InR .i64 n) : -9223372036854775808 ≤ n ∧ n ≤ 9223372036854775807 := by
  unfold InR IntKind.min IntKind.max at h
  simpa [IntKind.signed, IntKind.bits] using h
theorem tmod_inR {k : IntKind} {x y : Int} (hx : InR k x) : InR k (x.tmod y) := by
  unfold InR at *
  have h0 : k.min ≤ 0 ∧ 0 ≤ k.max := by cases k <;> decide
  have h1 : (x.tmod y).natAbs ≤ x.natAbs := by rw [Int.natAbs_tmod]; exact Nat.mod_le _ _
  rcases Int.le_total 0 x with h | h
  · have := Int.tmod_nonneg y h
    omega
  · have h2 : x.tmod y ≤ 0 := by
      have := Int.tmod_nonneg y (a := -x) (by omega)
      rw [Int.neg_tmod] at this
      omega
    omega
theorem fdiv_inR {k : IntKind} {x : Int} (n : Nat) (hx : InR k x) : InR k (x.fdiv (2 ^ n)) := by
  unfold InR at *
  have h0 : k.min ≤ 0 ∧ 0 ≤ k.max := by cases k <;> decide
  have hp : (0 : Int) < 2 ^ n := Int.pow_pos (by decide)
  rw [Int.fdiv_eq_ediv_of_nonneg _ (by omega)]
  have hp1 : (1 : Int) ≤ 2 ^ n := hp
  rcases Int.le_total 0 x with h | h
  · have h1 := Int.ediv_nonneg h (by omega : (0 : Int) ≤ 2 ^ n)
    have h2 : x / 2 ^ n ≤ x := Int.ediv_le_self _ h
    omega
  · have h1 : x / 2 ^ n ≤ 0 := by
      have := Int.ediv_le_ediv hp h
      simpa using this
    have h2 : x ≤ x / 2 ^ n := by
      rw [Int.le_ediv_iff_mul_le hp]
      have h3 := Int.mul_nonneg (show 0 ≤ -x by omega) (show (0 : Int) ≤ 2 ^ n - 1 by omega)
      rw [Int.mul_sub, Int.mul_one, Int.neg_mul] at h3
      omega
    omega

def arOp : BinOp → Bool
  | .add | .sub | .mul | .and | .or | .xor | .andNot => true
  | _ => false
def cmOp : BinOp → Bool
  | .eql | .neq | .lss | .leq | .gtr | .geq => true
  | _ => false
def shOp : BinOp → Bool
  | .shl | .shr => true
  | _ => false
def dvOp : BinOp → Bool
  | .quo | .rem => true
  | _ => false
theorem run_ar {op : BinOp} (h : arOp op = true) (k : IntKind) (x y : Int) (t : TypeId) (w : World) : (binOp op t (.int k x) (.int k y)).run P w = .ok (.int k (arI op k x y)) w := by
  cases op <;> first | (simp [arOp] at h; done) | (simp [binOp, Op.intArith, Op.intBits, arI])
theorem run_cm {op : BinOp} (h : cmOp op = true) (k : IntKind) (x y : Int) (t : TypeId) (w : World) : (binOp op t (.int k x) (.int k y)).run P w = .ok (.bool (cmB op x y)) w := by
  cases op <;> first | (simp [cmOp] at h; done) | (simp [binOp, Op.intCmp, cmB])
theorem run_sh {op : BinOp} (h : shOp op = true) (k yk : IntKind) (x y : Int) (hy : 0 ≤ y) (t : TypeId) (w : World) : (binOp op t (.int k x) (.int yk y)).run P w = .ok (.int k (arI op k x y)) w := by
  have hy' : ¬ y < 0 := by omega
  cases op <;> first | (simp [shOp] at h; done) | (simp [binOp, Op.shift, arI, hy'])
theorem run_dv {op : BinOp} (h : dvOp op = true) (k : IntKind) (x y : Int) (hy : y ≠ 0) (t : TypeId) (w : World) : (binOp op t (.int k x) (.int k y)).run P w = .ok (.int k (arI op k x y)) w := by
  cases op <;> first | (simp [dvOp] at h; done) | (simp [binOp, Op.intDiv, arI, hy])
theorem arI_inR {op : BinOp} (h : arOp op = true) (k : IntKind) (x y : Int) : InR k (arI op k x y) := by
  cases op <;> first | (simp [arOp] at h; done) | exact wrap_inR _ _
theorem eqGuard_int (op : BinOp) (t : TypeId) (x y : Operand) (k : IntKind) (n : Int) (v : Value) : eqGuard op t x y (.int k n) v = pure () := by cases op <;> rfl
theorem eqGuard_bool (op : BinOp) (t : TypeId) (x y : Operand) (b : Bool) (v : Value) : eqGuard op t x y (.bool b) v = pure () := by cases op <;> rfl

/-- The types of bools: '==' on them. -/
def isBoolT (P : Program) (t : TypeId) : Bool := match P.underlying t with | some .bool => true | _ => false
theorem run_eqBool {t : TypeId} (h : isBoolT P t = true) (x y : Bool) (w : World) : (Op.equal t (.bool x) (.bool y)).run P w = .ok (x == y) w := by
  unfold isBoolT at h
  split at h
  · rename_i hu
    unfold Op.equal Op.maxDepth
    rw [show (10000 : Nat) = 9999 + 1 from rfl, Op.equalIn]
    simp [underlying, hu]
  · cases h

def xBin (P : Program) (op : BinOp) (t : TypeId) (x y : S) : M S :=
  match x, y with
  | .one false [.int k a], .one false [.int l b] =>
    if shOp op then do
      let n ← mkCm .geq b (.c 0)
      oblige n
      pure (.one false [.int k (← mkAr op k a b)])
    else if k == l then
      if arOp op then do pure (.one false [.int k (← mkAr op k a b)])
      else if cmOp op then do pure (.one false [.bool (← mkCm op a b)])
      else if dvOp op then do
        let n ← mkCm .neq b (.c 0)
        oblige n
        pure (.one false [.int k (← mkAr op k a b)])
      else M.fail
    else M.fail
  | .one false [.bool a], .one false [.bool b] =>
    if isBoolT P t then match op with
      | .eql => do pure (.one false [.bool (← mkEqb a b)])
      | .neq => do
        let e ← mkEqb a b
        pure (.one false [.bool (← mkNot e)])
      | _ => M.fail
    else M.fail
  | _, _ => M.fail
theorem shr_inR {op : BinOp} (h : shOp op = true) {k : IntKind} {x : Int} (y : Int) (hx : InR k x) : InR k (arI op k x y) := by
  cases op <;> first | (simp [shOp] at h; done) | exact wrap_inR _ _ | exact fdiv_inR _ hx
theorem dv_inR {op : BinOp} (h : dvOp op = true) {k : IntKind} {x : Int} (y : Int) (hx : InR k x) : InR k (arI op k x y) := by
  cases op <;> first | (simp [dvOp] at h; done) | exact wrap_inR _ _ | exact tmod_inR hx
theorem pure_bin (hΓ : Gd.d ρ Γ = true) (op : BinOp) (t t' : TypeId) (x y : Operand) :
    Snd Φ ρ (xBin P op t (rs Γ (rv x)) (rs Γ (rv y))) (Pure P Γ hp rv ⟨dst, .binOp op t x y t', ty, pos, after, guard⟩ ρ) := by
  unfold xBin
  split
  · rename_i k a l b h1 h2
    have vx : ∀ β (ac : Act), (rv x).mt β ρ (ac.eval x) → ac.eval x = .int k (a.d ρ) ∧ InR k (a.d ρ) := fun β ac h => mt_int h1 (rs_mt hΓ h)
    have vy : ∀ β (ac : Act), (rv y).mt β ρ (ac.eval y) → ac.eval y = .int l (b.d ρ) ∧ InR l (b.d ρ) := fun β ac h => mt_int h2 (rs_mt hΓ h)
    split
    · rename_i ho
      refine Snd.bind (mkCm_snd _ _ _) fun n hn => Snd.bind (oblige_snd n) fun _ hn2 => Snd.bind (mkAr_snd op k a b) fun z hz => Snd.pure fun β ac w hx hh hq => ?_
      obtain ⟨ex, rx⟩ := vx β ac (hx x (by simp [Op.operands]))
      obtain ⟨ey, ry⟩ := vy β ac (hx y (by simp [Op.operands]))
      have h0 : 0 ≤ b.d ρ := by rw [hn] at hn2; simpa [cmB] using hn2
      refine ⟨.int k (z.d ρ), ?_, S.mt_i (by rw [hz]; exact shr_inR ho _ rx)⟩
      simp [execOp, ex, ey, eqGuard_int, run_sh ho k l _ _ h0, hz]
    · split
      · rename_i hkl
        simp only [beq_iff_eq] at hkl
        subst hkl
        split
        · rename_i ho
          refine Snd.bind (mkAr_snd op k a b) fun z hz => Snd.pure fun β ac w hx hh hq => ?_
          obtain ⟨ex, rx⟩ := vx β ac (hx x (by simp [Op.operands]))
          obtain ⟨ey, ry⟩ := vy β ac (hx y (by simp [Op.operands]))
          refine ⟨.int k (z.d ρ), ?_, S.mt_i (by rw [hz]; exact arI_inR ho _ _ _)⟩
          simp [execOp, ex, ey, eqGuard_int, run_ar ho, hz]
        · split
          · rename_i ho
            refine Snd.bind (mkCm_snd op a b) fun z hz => Snd.pure fun β ac w hx hh hq => ?_
            obtain ⟨ex, rx⟩ := vx β ac (hx x (by simp [Op.operands]))
            obtain ⟨ey, ry⟩ := vy β ac (hx y (by simp [Op.operands]))
            refine ⟨.bool (z.d ρ), ?_, S.mt_b⟩
            simp [execOp, ex, ey, eqGuard_int, run_cm ho, hz]
          · split
            · rename_i ho
              refine Snd.bind (mkCm_snd _ _ _) fun n hn => Snd.bind (oblige_snd n) fun _ hn2 => Snd.bind (mkAr_snd op k a b) fun z hz => Snd.pure fun β ac w hx hh hq => ?_
              obtain ⟨ex, rx⟩ := vx β ac (hx x (by simp [Op.operands]))
              obtain ⟨ey, ry⟩ := vy β ac (hx y (by simp [Op.operands]))
              have h0 : b.d ρ ≠ 0 := by rw [hn] at hn2; simpa [cmB] using hn2
              refine ⟨.int k (z.d ρ), ?_, S.mt_i (by rw [hz]; exact dv_inR ho _ rx)⟩
              simp [execOp, ex, ey, eqGuard_int, run_dv ho k _ _ h0, hz]
            · exact Snd.fail
      · exact Snd.fail
  · rename_i a b h1 h2
    have vx : ∀ β (ac : Act), (rv x).mt β ρ (ac.eval x) → ac.eval x = .bool (a.d ρ) := fun β ac h => mt_bool h1 (rs_mt hΓ h)
    have vy : ∀ β (ac : Act), (rv y).mt β ρ (ac.eval y) → ac.eval y = .bool (b.d ρ) := fun β ac h => mt_bool h2 (rs_mt hΓ h)
    split
    · rename_i ht
      split
      · refine Snd.bind (mkEqb_snd a b) fun z hz => Snd.pure fun β ac w hx hh hq => ?_
        refine ⟨.bool (z.d ρ), ?_, S.mt_b⟩
        simp [execOp, vx β ac (hx x (by simp [Op.operands])), vy β ac (hx y (by simp [Op.operands])), eqGuard_bool, binOp, run_eqBool ht, hz]
      · refine Snd.bind (mkEqb_snd a b) fun z hz => Snd.bind (mkNot_snd z) fun u hu => Snd.pure fun β ac w hx hh hq => ?_
        refine ⟨.bool (u.d ρ), ?_, S.mt_b⟩
        simp [execOp, vx β ac (hx x (by simp [Op.operands])), vy β ac (hx y (by simp [Op.operands])), eqGuard_bool, binOp, run_eqBool ht, hz, hu]
      · exact Snd.fail
    · exact Snd.fail
  · exact Snd.fail

def xUn (op : UnOp) (x : S) : M S :=
  match op, x with
  | .not, .one false [.bool b] => do pure (.one false [.bool (← mkNot b)])
  | .neg, .one false [.int k a] => do pure (.one false [.int k (← mkAr .sub k (.c 0) a)])
  | .xor, .one false [.int k a] => do pure (.one false [.int k (← mkAr .xor k (.c (if k.signed then -1 else k.max)) a)])
  | _, _ => M.fail
theorem pure_un (hΓ : Gd.d ρ Γ = true) (op : UnOp) (t : TypeId) (x : Operand) :
    Snd Φ ρ (xUn op (rs Γ (rv x))) (Pure P Γ hp rv ⟨dst, .unOp op t x, ty, pos, after, guard⟩ ρ) := by
  unfold xUn
  split
  · rename_i b h1
    refine Snd.bind (mkNot_snd b) fun z hz => Snd.pure fun β ac w hx hh hq => ⟨.bool (z.d ρ), ?_, S.mt_b⟩
    simp [execOp, mt_bool h1 (rs_mt hΓ (hx x (by simp [Op.operands]))), Op.unary, hz]
  · rename_i k a h1
    refine Snd.bind (mkAr_snd _ _ _ _) fun z hz => Snd.pure fun β ac w hx hh hq => ⟨.int k (z.d ρ), ?_, S.mt_i (by rw [hz]; exact arI_inR rfl _ _ _)⟩
    simp [execOp, (mt_int h1 (rs_mt hΓ (hx x (by simp [Op.operands])))).1, Op.unary, Op.intArith, hz, arI]
  · rename_i k a h1
    refine Snd.bind (mkAr_snd _ _ _ _) fun z hz => Snd.pure fun β ac w hx hh hq => ⟨.int k (z.d ρ), ?_, S.mt_i (by rw [hz]; exact arI_inR rfl _ _ _)⟩
    simp [execOp, (mt_int h1 (rs_mt hΓ (hx x (by simp [Op.operands])))).1, Op.unary, Op.intBits, hz, arI]
  · exact Snd.fail

def intKindOf (P : Program) (t : TypeId) : Option IntKind := match P.underlying t with | some (.int k) => some k | _ => none
theorem intKindOf_spec {t : TypeId} {k : IntKind} (h : intKindOf P t = some k) : P.underlying t = some (.int k) := by
  unfold intKindOf at h
  split at h
  · rename_i hu; simp only [Option.some.injEq] at h; subst h; exact hu
  · cases h
def xConv (P : Program) (src dst : TypeId) (x : S) : M S :=
  match intKindOf P src, intKindOf P dst, x with
  | some _, some k, .one false [.int _ a] => do pure (.one false [.int k (← mkCv k a)])
  | _, _, _ => M.fail
theorem pure_conv (hΓ : Gd.d ρ Γ = true) (src d : TypeId) (x : Operand) :
    Snd Φ ρ (xConv P src d (rs Γ (rv x))) (Pure P Γ hp rv ⟨dst, .convert src d x, ty, pos, after, guard⟩ ρ) := by
  unfold xConv
  split
  · rename_i j k l a h1 h2 h3
    refine Snd.bind (mkCv_snd _ _) fun z hz => Snd.pure fun β ac w hx hh hq => ⟨.int k (z.d ρ), ?_, S.mt_i (by rw [hz]; exact wrap_inR _ _)⟩
    simp [execOp, (mt_int h3 (rs_mt hΓ (hx x (by simp [Op.operands])))).1, convert, underlying, intKindOf_spec h1, intKindOf_spec h2, Conv.intToInt, hz]
  · exact Snd.fail
end ops
end Go.Proofs.YtalnndmnnffnmaaGreat.Sx
