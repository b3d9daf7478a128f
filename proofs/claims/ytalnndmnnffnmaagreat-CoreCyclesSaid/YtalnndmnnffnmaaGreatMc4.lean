/-
  Merged texts (SxPe, SxAr, SxZ). No condition.
-/
import Derived.Test.YtalnndmnnffnmaaGreatMc2
import Derived.Test.YtalnndmnnffnmaaGreatMc3
/-! ## SxPe -/
set_option linter.unusedVariables false
set_option linter.unusedSimpArgs false
namespace Go.Proofs.YtalnndmnnffnmaaGreat.Sx
open Go Go.Proofs

/-- Which new bools are told apart, one after the other. -/
inductive DT where
  | leaf
  | node (n : Nat) (t f : DT)
/-- The next numbers; which bools will be told apart, which were; what was written; what the first numbers are, within which masks they lie, which ones they may be. -/
structure Pc where
  i : Nat
  b : Nat
  dt : DT
  kn : List (Nat × Bool)
  out : List Em
  hy : List Em
  ms : List (Nat × Int)
  oc : List (Nat × List Int)
/-- What comes of it: answers; a bool that is not known and should be; two cases. -/
inductive Rep where
  | leaf (ri : List (Option A)) (rb : List (Option B)) (c : Pc)
  | bad (b : B) (c : Pc)
  | both (t f : Rep)
def Rep.ok (chk : List (Option A) → List (Option B) → Pc → Bool) : Rep → Bool
  | .leaf ri rb c => chk ri rb c
  | .bad _ _ => false
  | .both t f => t.ok chk && f.ok chk
abbrev Pm (α : Type) := (α → Pc → Rep) → Pc → Rep
def KbOk (ρ : Env) (k : List (Nat × Bool)) : Prop := ∀ p, p ∈ k → ρ.b p.1 = p.2
def MkOk (ρ : Env) (l : List (Nat × Int)) : Prop := ∀ p, p ∈ l → arI .and .u8 (ρ.i p.1) p.2 = ρ.i p.1
def OcOk (ρ : Env) (l : List (Nat × List Int)) : Prop := ∀ p, p ∈ l → ρ.i p.1 ∈ p.2
def StOk (ρ : Env) (c : Pc) : Prop := ∀ ρ', Agree c.i c.b ρ ρ' → Good Fun0 ρ' c.out ∧ KbOk ρ' c.kn ∧ Good Fun0 ρ' c.hy ∧ MkOk ρ' c.ms ∧ OcOk ρ' c.oc
def hyI (r : RI) : List Em → Option Nat
  | .di n r' :: l => if r.eq r' then some n else hyI r l
  | _ :: l => hyI r l
  | [] => none
theorem hyI_ok {ρ : Env} {r : RI} {n : Nat} : ∀ {l : List Em}, Good Fun0 ρ l → hyI r l = some n → ρ.i n = r.d ρ
  | [], _, h => by cases h
  | .di m r' :: l, hg, h => by
    unfold hyI at h
    split at h
    · rename_i e
      cases h
      rw [RI.eq_sound e]
      exact (Good.cons.1 hg).1
    · exact hyI_ok (Good.cons.1 hg).2 h
  | .db _ _ :: l, hg, h => hyI_ok (Good.cons.1 hg).2 h
  | .ob _ _ :: l, hg, h => hyI_ok (Good.cons.1 hg).2 h
  | .call _ _ _ _ _ _ _ :: l, hg, h => hyI_ok (Good.cons.1 hg).2 h
def mkMem (n : Nat) (m : Int) : List (Nat × Int) → Bool
  | [] => false
  | (k, j) :: l => (Nat.beq k n && decide (j = m)) || mkMem n m l
theorem mkMem_ok {n : Nat} {m : Int} : ∀ {l : List (Nat × Int)}, mkMem n m l = true → (n, m) ∈ l
  | [], h => by cases h
  | (k, j) :: l, h => by
    unfold mkMem at h
    rw [Bool.or_eq_true] at h
    rcases h with h | h
    · simp only [Bool.and_eq_true, Nat.beq_eq, decide_eq_true_eq] at h
      rw [h.1, h.2]; exact List.mem_cons_self
    · exact List.mem_cons_of_mem _ (mkMem_ok h)
structure Up (ρ : Env) (c : Pc) (ρ' : Env) (c' : Pc) : Prop where
  i : c.i ≤ c'.i
  b : c.b ≤ c'.b
  ag : Agree c.i c.b ρ ρ'
  st : StOk ρ' c'
theorem Agree.refl {i b : Nat} {ρ : Env} : Agree i b ρ ρ := ⟨fun _ _ => rfl, fun _ _ => rfl⟩
theorem Up.refl {ρ : Env} {c : Pc} (h : StOk ρ c) : Up ρ c ρ c := ⟨Nat.le_refl _, Nat.le_refl _, Agree.refl, h⟩
theorem Up.trans {ρ ρ' ρ'' : Env} {c c' c'' : Pc} (h : Up ρ c ρ' c') (h' : Up ρ' c' ρ'' c'') : Up ρ c ρ'' c'' :=
  ⟨Nat.le_trans h.i h'.i, Nat.le_trans h.b h'.b, h.ag.trans h'.ag h.i h.b, h'.st⟩
/-- A number's value, whatever comes later. -/
def WA (ρ : Env) (c : Pc) (x : A) (v : Int) : Prop := ∀ ρ', Agree c.i c.b ρ ρ' → x.d ρ' = v
def WB (ρ : Env) (c : Pc) (x : B) (v : Bool) : Prop := ∀ ρ', Agree c.i c.b ρ ρ' → x.d ρ' = v
theorem WA.up {ρ ρ' : Env} {c c' : Pc} {x : A} {v : Int} (h : WA ρ c x v) (u : Up ρ c ρ' c') : WA ρ' c' x v := fun ρ'' h'' => h ρ'' (u.ag.trans h'' u.i u.b)
theorem WB.up {ρ ρ' : Env} {c c' : Pc} {x : B} {v : Bool} (h : WB ρ c x v) (u : Up ρ c ρ' c') : WB ρ' c' x v := fun ρ'' h'' => h ρ'' (u.ag.trans h'' u.i u.b)
theorem WA.c {ρ : Env} {c : Pc} {k : Int} : WA ρ c (.c k) k := fun _ _ => rfl
theorem WB.c {ρ : Env} {c : Pc} {k : Bool} : WB ρ c (.c k) k := fun _ _ => rfl
theorem WA.inv {ρ : Env} {c : Pc} {k v : Int} (h : WA ρ c (.c k) v) : v = k := (h ρ Agree.refl).symm
theorem WB.inv {ρ : Env} {c : Pc} {k v : Bool} (h : WB ρ c (.c k) v) : v = k := (h ρ Agree.refl).symm
def exFind : List Em → Bool → Nat → Option (RI ⊕ RB)
  | [], _, _ => none
  | .di m r :: l, t, n => if !t && Nat.beq m n then some (.inl r) else exFind l t n
  | .db m r :: l, t, n => if t && Nat.beq m n then some (.inr r) else exFind l t n
  | _ :: l, t, n => exFind l t n
theorem exFind_i {ρ : Env} {n : Nat} {r : RI} : ∀ {l : List Em}, Good Fun0 ρ l → exFind l false n = some (.inl r) → ρ.i n = r.d ρ
  | [], _, h => by cases h
  | .di m r' :: l, hg, h => by
    unfold exFind at h
    split at h
    · rename_i e
      simp only [Bool.not_false, Bool.true_and, Nat.beq_eq] at e
      subst e
      cases h
      exact (Good.cons.1 hg).1
    · exact exFind_i (Good.cons.1 hg).2 h
  | .db m r' :: l, hg, h => by
    unfold exFind at h
    simp only [Bool.false_and, Bool.false_eq_true, if_false] at h
    exact exFind_i (Good.cons.1 hg).2 h
  | .ob _ _ :: l, hg, h => exFind_i (Good.cons.1 hg).2 h
  | .call _ _ _ _ _ _ _ :: l, hg, h => exFind_i (Good.cons.1 hg).2 h
theorem exFind_b {ρ : Env} {n : Nat} {r : RB} : ∀ {l : List Em}, Good Fun0 ρ l → exFind l true n = some (.inr r) → ρ.b n = r.d ρ
  | [], _, h => by cases h
  | .db m r' :: l, hg, h => by
    unfold exFind at h
    split at h
    · rename_i e
      simp only [Bool.true_and, Nat.beq_eq] at e
      subst e
      cases h
      exact (Good.cons.1 hg).1
    · exact exFind_b (Good.cons.1 hg).2 h
  | .di m r' :: l, hg, h => by
    unfold exFind at h
    simp only [Bool.not_true, Bool.false_and, Bool.false_eq_true, if_false] at h
    exact exFind_b (Good.cons.1 hg).2 h
  | .ob _ _ :: l, hg, h => exFind_b (Good.cons.1 hg).2 h
  | .call _ _ _ _ _ _ _ :: l, hg, h => exFind_b (Good.cons.1 hg).2 h
theorem and8_idem (x m : Int) : arI .and .u8 (arI .and .u8 x m) m = arI .and .u8 x m := by
  have h (a b : Int) : arI .and .u8 a b = ((BitVec.ofInt 8 a &&& BitVec.ofInt 8 b).toNat : Int) := by
    show IntKind.wrap .u8 _ = _
    have := (BitVec.ofInt 8 a &&& BitVec.ofInt 8 b).isLt
    rw [wrap_u8]
    show ((BitVec.ofInt 8 a &&& BitVec.ofInt 8 b).toNat : Int) % 256 = _
    omega
  rw [h, h]
  congr 1
  have : BitVec.ofInt 8 ((BitVec.ofInt 8 x &&& BitVec.ofInt 8 m).toNat : Int) = BitVec.ofInt 8 x &&& BitVec.ofInt 8 m := by
    apply BitVec.eq_of_toNat_eq
    rw [BitVec.toNat_ofInt]
    have := (BitVec.ofInt 8 x &&& BitVec.ofInt 8 m).isLt
    omega
  rw [this, BitVec.and_assoc, BitVec.and_self]
def isAnd8 (op : BinOp) (k : IntKind) : Bool := match op, k with
  | .and, .u8 => true
  | _, _ => false
theorem isAnd8_ok {op : BinOp} {k : IntKind} (h : isAnd8 op k = true) : op = .and ∧ k = .u8 := by
  cases op <;> cases k <;> first | exact ⟨rfl, rfl⟩ | cases h
def isAndC (m : Int) : RI → Bool
  | .ar op k _ (.c m') => isAnd8 op k && decide (m' = m)
  | _ => false
def mskOut (n : Nat) (m : Int) (out : List Em) : Bool := match exFind out false n with
  | some (.inl r) => isAndC m r
  | _ => false
theorem mskOut_ok {ρ : Env} {n : Nat} {m : Int} {out : List Em} (hg : Good Fun0 ρ out) (h : mskOut n m out = true) : arI .and .u8 (ρ.i n) m = ρ.i n := by
  unfold mskOut at h
  split at h
  · rename_i r hr
    have h1 := exFind_i hg hr
    unfold isAndC at h
    split at h
    · simp only [Bool.and_eq_true, decide_eq_true_eq] at h
      obtain ⟨h2, rfl⟩ := h
      obtain ⟨rfl, rfl⟩ := isAnd8_ok h2
      rw [h1]
      exact and8_idem _ _
    · cases h
  · cases h
def Pc.msk (c : Pc) (n : Nat) (m : Int) : Bool := mkMem n m c.ms || mskOut n m c.out
theorem Pc.msk_ok {ρ : Env} {c : Pc} (hs : StOk ρ c) {n : Nat} {m : Int} (h : c.msk n m = true) {ρ' : Env} (ha : Agree c.i c.b ρ ρ') : arI .and .u8 (ρ'.i n) m = ρ'.i n := by
  unfold Pc.msk at h
  rw [Bool.or_eq_true] at h
  rcases h with h | h
  · have h1 := (hs ρ' ha).2.2.2.1 (n, m) (mkMem_ok h)
    exact h1
  · exact mskOut_ok (hs ρ' ha).1 h
section
variable (chk : List (Option A) → List (Option B) → Pc → Bool)
/-- What such a step is worth. -/
def Does {α : Type} (m : Pm α) (ρ : Env) (c : Pc) (p : Env → Pc → α → Prop) : Prop :=
  ∀ k, (m k c).ok chk = true → ∃ ρ' c' x, Up ρ c ρ' c' ∧ p ρ' c' x ∧ (k x c').ok chk = true
end
section
variable {chk : List (Option A) → List (Option B) → Pc → Bool} {α β : Type} {ρ : Env} {c : Pc}
theorem Does.pure {x : α} {p : Env → Pc → α → Prop} (hs : StOk ρ c) (h : p ρ c x) : Does chk (fun k => k x) ρ c p := fun k hk => ⟨ρ, c, x, Up.refl hs, h, hk⟩
theorem Does.bind {m : Pm α} {f : α → Pm β} {p : Env → Pc → α → Prop} {q : Env → Pc → β → Prop} (hm : Does chk m ρ c p) (hf : ∀ ρ' c' x, Up ρ c ρ' c' → p ρ' c' x → Does chk (f x) ρ' c' q) :
    Does chk (fun k => m (fun x => f x k)) ρ c q := by
  intro k hk
  obtain ⟨ρ', c', x, u, hp, h⟩ := hm _ hk
  obtain ⟨ρ'', c'', y, u', hq, h'⟩ := hf ρ' c' x u hp k h
  exact ⟨ρ'', c'', y, u.trans u', hq, h'⟩
theorem Does.mono {m : Pm α} {p q : Env → Pc → α → Prop} (hm : Does chk m ρ c p) (hpq : ∀ ρ' c' x, Up ρ c ρ' c' → p ρ' c' x → q ρ' c' x) : Does chk m ρ c q := by
  intro k hk
  obtain ⟨ρ', c', x, u, hp, h⟩ := hm k hk
  exact ⟨ρ', c', x, u, hpq _ _ _ u hp, h⟩
/-! ### New numbers -/
def pI (r : RI) : Pm A := fun k c => match hyI r c.hy with
  | some n => k (.v n) c
  | none => k (.v c.i) { c with i := c.i + 1, out := .di c.i r :: c.out }
def pB (r : RB) : Pm B := fun k c => match c.dt with
  | .leaf => k (.v c.b) { c with b := c.b + 1, out := .db c.b r :: c.out }
  | .node n t f => match Nat.beq n c.b with
    | true => .both (k (.c true) { c with b := c.b + 1, dt := t, kn := (c.b, true) :: c.kn, out := .db c.b r :: c.out }) (k (.c false) { c with b := c.b + 1, dt := f, kn := (c.b, false) :: c.kn, out := .db c.b r :: c.out })
    | false => k (.v c.b) { c with b := c.b + 1, out := .db c.b r :: c.out }
def setI (ρ : Env) (n : Nat) (v : Int) : Env := { ρ with i := fun m => if m = n then v else ρ.i m }
def setB (ρ : Env) (n : Nat) (v : Bool) : Env := { ρ with b := fun m => if m = n then v else ρ.b m }
theorem agree_setI {i b : Nat} {v : Int} : Agree i b ρ (setI ρ i v) := ⟨fun n hn => by simp only [setI]; rw [if_neg (by omega)], fun _ _ => rfl⟩
theorem agree_setB {i b : Nat} {v : Bool} : Agree i b ρ (setB ρ b v) := ⟨fun _ _ => rfl, fun n hn => by simp only [setB]; rw [if_neg (by omega)]⟩
theorem pI_ok {r : RI} {v : Int} (hs : StOk ρ c) (hr : ∀ ρ', Agree c.i c.b ρ ρ' → r.d ρ' = v) : Does chk (pI r) ρ c (fun ρ' c' x => WA ρ' c' x v) := by
  intro k hk
  have hv : ∀ ρ'', Agree (c.i + 1) c.b (setI ρ c.i v) ρ'' → ρ''.i c.i = v := fun ρ'' h => by
    rw [h.1 c.i (Nat.lt_succ_self _)]; simp [setI]
  unfold pI at hk
  split at hk
  · rename_i n hn
    exact ⟨ρ, c, .v n, Up.refl hs, fun ρ' ha => by
      show ρ'.i n = v
      rw [hyI_ok (hs ρ' ha).2.2.1 hn, hr ρ' ha], hk⟩
  refine ⟨setI ρ c.i v, { c with i := c.i + 1, out := .di c.i r :: c.out }, .v c.i, ⟨Nat.le_succ _, Nat.le_refl _, agree_setI, fun ρ'' h => ?_⟩, fun ρ'' h => hv ρ'' h, hk⟩
  have ha : Agree c.i c.b ρ ρ'' := agree_setI.trans h (Nat.le_succ _) (Nat.le_refl _)
  obtain ⟨h1, h2, h3, h4⟩ := hs ρ'' ha
  refine ⟨Good.cons.2 ⟨?_, h1⟩, h2, h3, h4⟩
  show ρ''.i c.i = r.d ρ''
  rw [hv ρ'' h, hr ρ'' ha]
theorem pB_ok {r : RB} {v : Bool} (hs : StOk ρ c) (hr : ∀ ρ', Agree c.i c.b ρ ρ' → r.d ρ' = v) : Does chk (pB r) ρ c (fun ρ' c' x => WB ρ' c' x v) := by
  have hv : ∀ ρ'', Agree c.i (c.b + 1) (setB ρ c.b v) ρ'' → ρ''.b c.b = v := fun ρ'' h => by
    rw [h.2 c.b (Nat.lt_succ_self _)]; simp [setB]
  have key : ∀ (dt : DT) (kn : List (Nat × Bool)), (∀ p, p ∈ kn → p = (c.b, v) ∨ p ∈ c.kn) → Up ρ c (setB ρ c.b v) { c with b := c.b + 1, dt := dt, kn := kn, out := .db c.b r :: c.out } := by
    intro dt kn hkn
    refine ⟨Nat.le_refl _, Nat.le_succ _, agree_setB, fun ρ'' h => ?_⟩
    have ha : Agree c.i c.b ρ ρ'' := agree_setB.trans h (Nat.le_refl _) (Nat.le_succ _)
    obtain ⟨h1, h2, h3, h4⟩ := hs ρ'' ha
    refine ⟨Good.cons.2 ⟨?_, h1⟩, fun p hp => ?_, h3, h4⟩
    · show ρ''.b c.b = r.d ρ''
      rw [hv ρ'' h, hr ρ'' ha]
    · rcases hkn p hp with rfl | h3
      · exact hv ρ'' h
      · exact h2 p h3
  intro k hk
  unfold pB at hk
  split at hk
  · exact ⟨_, { c with b := c.b + 1, out := .db c.b r :: c.out }, .v c.b, key c.dt c.kn (fun p hp => .inr hp), fun ρ'' h => hv ρ'' h, hk⟩
  · rename_i n t f hdt
    split at hk
    · simp only [Rep.ok, Bool.and_eq_true] at hk
      cases v
      · exact ⟨_, _, _, key f ((c.b, false) :: c.kn) (fun p hp => List.mem_cons.1 hp), WB.c, hk.2⟩
      · exact ⟨_, _, _, key t ((c.b, true) :: c.kn) (fun p hp => List.mem_cons.1 hp), WB.c, hk.1⟩
    · exact ⟨_, { c with b := c.b + 1, out := .db c.b r :: c.out }, .v c.b, key c.dt c.kn (fun p hp => .inr hp), fun ρ'' h => hv ρ'' h, hk⟩
/-! ### With what is known folded -/
def pAr (op : BinOp) (k : IntKind) (a b : A) : Pm A :=
  match a, b with
  | .c x, .c y => fun kk => kk (.c (arI op k x y))
  | .v n, .c m => fun kk c => if isAnd8 op k && c.msk n m then kk (.v n) c else pI (.ar op k (.v n) (.c m)) kk c
  | a, b => pI (.ar op k a b)
def pCv (k : IntKind) (a : A) : Pm A :=
  match a with
  | .c x => fun kk => kk (.c (k.wrap x))
  | a => pI (.cv k a)
def pIte (g : B) (a b : A) : Pm A :=
  match g with
  | .c true => fun kk => kk a
  | .c false => fun kk => kk b
  | g => if a.eq b then fun kk => kk a else pI (.ite g a b)
def pMn (a b : A) : Pm A :=
  match a, b with
  | .c x, .c y => fun kk => kk (.c (if y < x then y else x))
  | a, b => pI (.mn a b)
def pMx (a b : A) : Pm A :=
  match a, b with
  | .c x, .c y => fun kk => kk (.c (if y > x then y else x))
  | a, b => pI (.mx a b)
def pTab (l : List Int) (a : A) : Pm A :=
  match a with
  | .c x => fun kk => kk (.c (l.getD x.toNat 0))
  | a => pI (.tab l a)
def pCm (op : BinOp) (a b : A) : Pm B :=
  match a, b with
  | .c x, .c y => fun kk => kk (.c (cmB op x y))
  | a, b => if a.eq b then fun kk => kk (.c (cmB op 0 0)) else pB (.cm op a b)
def pNot (a : B) : Pm B :=
  match a with
  | .c x => fun kk => kk (.c (!x))
  | a => pB (.not a)
def pAnd (a b : B) : Pm B :=
  match a, b with
  | .c true, b => fun kk => kk b
  | .c false, _ => fun kk => kk (.c false)
  | a, .c true => fun kk => kk a
  | _, .c false => fun kk => kk (.c false)
  | a, b => pB (.and a b)
def pOr (a b : B) : Pm B :=
  match a, b with
  | .c false, b => fun kk => kk b
  | .c true, _ => fun kk => kk (.c true)
  | a, .c false => fun kk => kk a
  | _, .c true => fun kk => kk (.c true)
  | a, b => pB (.or a b)
def pEqb (a b : B) : Pm B :=
  match a, b with
  | .c true, b => fun kk => kk b
  | a, .c true => fun kk => kk a
  | .c x, .c y => fun kk => kk (.c (x == y))
  | a, b => if a.eq b then fun kk => kk (.c true) else pB (.eqb a b)
def pIteB (g a b : B) : Pm B :=
  match g with
  | .c true => fun kk => kk a
  | .c false => fun kk => kk b
  | g => if a.eq b then fun kk => kk a else pB (.ite g a b)
theorem cmB_self (op : BinOp) (x : Int) : cmB op x x = cmB op 0 0 := by
  cases op <;> simp [cmB]
theorem pAr_ok {op : BinOp} {k : IntKind} {a b : A} {x y : Int} (hs : StOk ρ c) (ha : WA ρ c a x) (hb : WA ρ c b y) : Does chk (pAr op k a b) ρ c (fun ρ' c' z => WA ρ' c' z (arI op k x y)) := by
  unfold pAr
  split
  · obtain rfl := ha.inv; obtain rfl := hb.inv
    exact Does.pure hs WA.c
  · rename_i n m
    intro kk hk
    simp only [] at hk
    split at hk
    · rename_i e
      rw [Bool.and_eq_true] at e
      obtain ⟨rfl, rfl⟩ := isAnd8_ok e.1
      obtain rfl := hb.inv
      refine ⟨ρ, c, .v n, Up.refl hs, fun ρ' h => ?_, hk⟩
      have h1 := Pc.msk_ok hs e.2 h
      have h2 : ρ'.i n = x := ha ρ' h
      show ρ'.i n = _
      rw [← h2]; exact h1.symm
    · exact pI_ok hs (fun ρ' h => by simp only [RI.d]; rw [ha ρ' h, hb ρ' h]) kk hk
  · exact pI_ok hs fun ρ' h => by simp only [RI.d]; rw [ha ρ' h, hb ρ' h]
theorem pCv_ok {k : IntKind} {a : A} {x : Int} (hs : StOk ρ c) (ha : WA ρ c a x) : Does chk (pCv k a) ρ c (fun ρ' c' z => WA ρ' c' z (k.wrap x)) := by
  unfold pCv
  split
  · obtain rfl := ha.inv
    exact Does.pure hs WA.c
  · exact pI_ok hs fun ρ' h => by simp only [RI.d]; rw [ha ρ' h]
theorem pIte_ok {g : B} {a b : A} {w : Bool} {x y : Int} (hs : StOk ρ c) (hg : WB ρ c g w) (ha : WA ρ c a x) (hb : WA ρ c b y) : Does chk (pIte g a b) ρ c (fun ρ' c' z => WA ρ' c' z (if w then x else y)) := by
  unfold pIte
  split
  · obtain rfl := hg.inv
    exact Does.pure hs ha
  · obtain rfl := hg.inv
    exact Does.pure hs hb
  · split
    · rename_i he
      obtain rfl := A.eq_sound he
      have : x = y := (ha ρ Agree.refl).symm.trans (hb ρ Agree.refl)
      subst this
      rw [ite_self]
      exact Does.pure hs ha
    · exact pI_ok hs fun ρ' h => by simp only [RI.d]; rw [hg ρ' h, ha ρ' h, hb ρ' h]
theorem pMn_ok {a b : A} {x y : Int} (hs : StOk ρ c) (ha : WA ρ c a x) (hb : WA ρ c b y) : Does chk (pMn a b) ρ c (fun ρ' c' z => WA ρ' c' z (if y < x then y else x)) := by
  unfold pMn
  split
  · obtain rfl := ha.inv; obtain rfl := hb.inv
    exact Does.pure hs WA.c
  · exact pI_ok hs fun ρ' h => by simp only [RI.d]; rw [ha ρ' h, hb ρ' h]
theorem pMx_ok {a b : A} {x y : Int} (hs : StOk ρ c) (ha : WA ρ c a x) (hb : WA ρ c b y) : Does chk (pMx a b) ρ c (fun ρ' c' z => WA ρ' c' z (if y > x then y else x)) := by
  unfold pMx
  split
  · obtain rfl := ha.inv; obtain rfl := hb.inv
    exact Does.pure hs WA.c
  · exact pI_ok hs fun ρ' h => by simp only [RI.d]; rw [ha ρ' h, hb ρ' h]
theorem pTab_ok {l : List Int} {a : A} {x : Int} (hs : StOk ρ c) (ha : WA ρ c a x) : Does chk (pTab l a) ρ c (fun ρ' c' z => WA ρ' c' z (l.getD x.toNat 0)) := by
  unfold pTab
  split
  · obtain rfl := ha.inv
    exact Does.pure hs WA.c
  · exact pI_ok hs fun ρ' h => by simp only [RI.d]; rw [ha ρ' h]
theorem pCm_ok {op : BinOp} {a b : A} {x y : Int} (hs : StOk ρ c) (ha : WA ρ c a x) (hb : WA ρ c b y) : Does chk (pCm op a b) ρ c (fun ρ' c' z => WB ρ' c' z (cmB op x y)) := by
  unfold pCm
  split
  · obtain rfl := ha.inv; obtain rfl := hb.inv
    exact Does.pure hs WB.c
  · split
    · rename_i he
      obtain rfl := A.eq_sound he
      have : x = y := (ha ρ Agree.refl).symm.trans (hb ρ Agree.refl)
      subst this
      have h : Does chk (fun kk => kk (.c (cmB op 0 0))) ρ c (fun ρ' c' z => WB ρ' c' z (cmB op 0 0)) := Does.pure hs WB.c
      rw [cmB_self op x]
      exact h
    · exact pB_ok hs fun ρ' h => by simp only [RB.d]; rw [ha ρ' h, hb ρ' h]
theorem pNot_ok {a : B} {x : Bool} (hs : StOk ρ c) (ha : WB ρ c a x) : Does chk (pNot a) ρ c (fun ρ' c' z => WB ρ' c' z (!x)) := by
  unfold pNot
  split
  · obtain rfl := ha.inv
    exact Does.pure hs WB.c
  · exact pB_ok hs fun ρ' h => by simp only [RB.d]; rw [ha ρ' h]
theorem pAnd_ok {a b : B} {x y : Bool} (hs : StOk ρ c) (ha : WB ρ c a x) (hb : WB ρ c b y) : Does chk (pAnd a b) ρ c (fun ρ' c' z => WB ρ' c' z (x && y)) := by
  unfold pAnd
  split
  · obtain rfl := ha.inv
    exact Does.pure hs (by simpa using hb)
  · obtain rfl := ha.inv
    exact Does.pure hs (by simpa using WB.c)
  · obtain rfl := hb.inv
    exact Does.pure hs (by simpa using ha)
  · obtain rfl := hb.inv
    exact Does.pure hs (by simpa using WB.c)
  · exact pB_ok hs fun ρ' h => by simp only [RB.d]; rw [ha ρ' h, hb ρ' h]
theorem pOr_ok {a b : B} {x y : Bool} (hs : StOk ρ c) (ha : WB ρ c a x) (hb : WB ρ c b y) : Does chk (pOr a b) ρ c (fun ρ' c' z => WB ρ' c' z (x || y)) := by
  unfold pOr
  split
  · obtain rfl := ha.inv
    exact Does.pure hs (by simpa using hb)
  · obtain rfl := ha.inv
    exact Does.pure hs (by simpa using WB.c)
  · obtain rfl := hb.inv
    exact Does.pure hs (by simpa using ha)
  · obtain rfl := hb.inv
    exact Does.pure hs (by simpa using WB.c)
  · exact pB_ok hs fun ρ' h => by simp only [RB.d]; rw [ha ρ' h, hb ρ' h]
theorem pEqb_ok {a b : B} {x y : Bool} (hs : StOk ρ c) (ha : WB ρ c a x) (hb : WB ρ c b y) : Does chk (pEqb a b) ρ c (fun ρ' c' z => WB ρ' c' z (x == y)) := by
  unfold pEqb
  split
  · obtain rfl := ha.inv
    exact Does.pure hs (by simpa using hb)
  · obtain rfl := hb.inv
    exact Does.pure hs (by simpa using ha)
  · obtain rfl := ha.inv; obtain rfl := hb.inv
    exact Does.pure hs WB.c
  · split
    · rename_i he
      obtain rfl := B.eq_sound he
      have : x = y := (ha ρ Agree.refl).symm.trans (hb ρ Agree.refl)
      subst this
      exact Does.pure hs (by simpa using WB.c)
    · exact pB_ok hs fun ρ' h => by simp only [RB.d]; rw [ha ρ' h, hb ρ' h]
theorem pIteB_ok {g a b : B} {w x y : Bool} (hs : StOk ρ c) (hg : WB ρ c g w) (ha : WB ρ c a x) (hb : WB ρ c b y) : Does chk (pIteB g a b) ρ c (fun ρ' c' z => WB ρ' c' z (if w then x else y)) := by
  unfold pIteB
  split
  · obtain rfl := hg.inv
    exact Does.pure hs ha
  · obtain rfl := hg.inv
    exact Does.pure hs hb
  · split
    · rename_i he
      obtain rfl := B.eq_sound he
      have : x = y := (ha ρ Agree.refl).symm.trans (hb ρ Agree.refl)
      subst this
      rw [ite_self]
      exact Does.pure hs ha
    · exact pB_ok hs fun ρ' h => by simp only [RB.d]; rw [hg ρ' h, ha ρ' h, hb ρ' h]
end
/-! ### What is known of a function's numbers so far -/
def WOA (ρ : Env) (c : Pc) (x : Option A) (v : Int) : Prop := ∀ a, x = some a → WA ρ c a v
def WOB (ρ : Env) (c : Pc) (x : Option B) (v : Bool) : Prop := ∀ a, x = some a → WB ρ c a v
theorem WOA.up {ρ ρ' : Env} {c c' : Pc} {x : Option A} {v : Int} (h : WOA ρ c x v) (u : Up ρ c ρ' c') : WOA ρ' c' x v := fun a ha => (h a ha).up u
theorem WOB.up {ρ ρ' : Env} {c c' : Pc} {x : Option B} {v : Bool} (h : WOB ρ c x v) (u : Up ρ c ρ' c') : WOB ρ' c' x v := fun a ha => (h a ha).up u
theorem WOA.none {ρ : Env} {c : Pc} {v : Int} : WOA ρ c none v := fun a ha => by cases ha
theorem WOB.none {ρ : Env} {c : Pc} {v : Bool} : WOB ρ c none v := fun a ha => by cases ha
theorem WOA.some {ρ : Env} {c : Pc} {x : A} {v : Int} (h : WA ρ c x v) : WOA ρ c (some x) v := fun a ha => by cases ha; exact h
theorem WOB.some {ρ : Env} {c : Pc} {x : B} {v : Bool} (h : WB ρ c x v) : WOB ρ c (some x) v := fun a ha => by cases ha; exact h
structure PeS where
  ni : Nat
  nb : Nat
  ti : Tr (Option A)
  tb : Tr (Option B)
def PeS.a (σ : PeS) : A → Option A
  | .v n => match Nat.blt n σ.ni with
    | true => σ.ti.get none (n + 1)
    | false => none
  | .c k => some (.c k)
def PeS.bo (σ : PeS) : B → Option B
  | .v n => match Nat.blt n σ.nb with
    | true => σ.tb.get none (n + 1)
    | false => none
  | .c k => some (.c k)
def PeS.pI (σ : PeS) (x : Option A) : PeS := { σ with ni := σ.ni + 1, ti := σ.ti.set (σ.ni + 1) x }
def PeS.pB (σ : PeS) (x : Option B) : PeS := { σ with nb := σ.nb + 1, tb := σ.tb.set (σ.nb + 1) x }
def PeS.pIs (σ : PeS) : Nat → List (Option A) → PeS
  | 0, _ => σ
  | n + 1, [] => (σ.pI none).pIs n []
  | n + 1, x :: l => (σ.pI x).pIs n l
def PeS.pBs (σ : PeS) : Nat → List (Option B) → PeS
  | 0, _ => σ
  | n + 1, [] => (σ.pB none).pBs n []
  | n + 1, x :: l => (σ.pB x).pBs n l
structure PeS.ok (σ : PeS) (ρ : Env) (c : Pc) (is : List Int) (bs : List Bool) : Prop where
  ni : σ.ni = is.length
  nb : σ.nb = bs.length
  i : ∀ j a, j < is.length → σ.ti.get none (j + 1) = some a → WA ρ c a (is.getD j 0)
  b : ∀ j a, j < bs.length → σ.tb.get none (j + 1) = some a → WB ρ c a (bs.getD j false)
theorem PeS.ok.up {σ : PeS} {ρ ρ' : Env} {c c' : Pc} {is : List Int} {bs : List Bool} (h : σ.ok ρ c is bs) (u : Up ρ c ρ' c') : σ.ok ρ' c' is bs :=
  ⟨h.ni, h.nb, fun j a hj ha => (h.i j a hj ha).up u, fun j a hj ha => (h.b j a hj ha).up u⟩
theorem PeS.a_ok {σ : PeS} {ρ : Env} {c : Pc} {is : List Int} {bs : List Bool} (h : σ.ok ρ c is bs) {x y : A} (he : σ.a x = some y) : WA ρ c y (x.d (envOf is bs)) := by
  cases x with
  | v n =>
    simp only [PeS.a] at he
    split at he
    · rename_i hlt
      have : n < is.length := by rw [← h.ni]; exact Nat.le_of_ble_eq_true hlt
      exact h.i n y this he
    · cases he
  | c k => cases he; exact WA.c
theorem PeS.bo_ok {σ : PeS} {ρ : Env} {c : Pc} {is : List Int} {bs : List Bool} (h : σ.ok ρ c is bs) {x y : B} (he : σ.bo x = some y) : WB ρ c y (x.d (envOf is bs)) := by
  cases x with
  | v n =>
    simp only [PeS.bo] at he
    split at he
    · rename_i hlt
      have : n < bs.length := by rw [← h.nb]; exact Nat.le_of_ble_eq_true hlt
      exact h.b n y this he
    · cases he
  | c k => cases he; exact WB.c
theorem getD_snoc {α : Type} {d x : α} {l : List α} {j : Nat} (h : j < l.length + 1) : (l ++ [x]).getD j d = if j = l.length then x else l.getD j d := by
  split
  · rename_i e; subst e; exact getD_snoc_eq
  · exact getD_snoc_lt (by omega)
theorem PeS.pI_ok {σ : PeS} {ρ : Env} {c : Pc} {is : List Int} {bs : List Bool} (h : σ.ok ρ c is bs) {x : Option A} {v : Int} (hx : WOA ρ c x v) : (σ.pI x).ok ρ c (is ++ [v]) bs := by
  refine ⟨by simp [PeS.pI, h.ni], h.nb, fun j a hj ha => ?_, h.b⟩
  simp only [List.length_append, List.length_cons, List.length_nil, Nat.zero_add] at hj
  simp only [PeS.pI, h.ni] at ha
  rw [getD_snoc hj]
  split
  · rename_i e
    subst e
    rcases Tr.get_set_eq (d := none) (x := x) (t := σ.ti) (i := is.length + 1) with e1 | e1
    · rw [e1] at ha; exact hx a ha
    · rw [e1] at ha; cases ha
  · rename_i e
    rw [Tr.get_set_ne (by omega) (by omega) (by omega)] at ha
    exact h.i j a (by omega) ha
theorem PeS.pB_ok {σ : PeS} {ρ : Env} {c : Pc} {is : List Int} {bs : List Bool} (h : σ.ok ρ c is bs) {x : Option B} {v : Bool} (hx : WOB ρ c x v) : (σ.pB x).ok ρ c is (bs ++ [v]) := by
  refine ⟨h.ni, by simp [PeS.pB, h.nb], h.i, fun j a hj ha => ?_⟩
  simp only [List.length_append, List.length_cons, List.length_nil, Nat.zero_add] at hj
  simp only [PeS.pB, h.nb] at ha
  rw [getD_snoc hj]
  split
  · rename_i e
    subst e
    rcases Tr.get_set_eq (d := none) (x := x) (t := σ.tb) (i := bs.length + 1) with e1 | e1
    · rw [e1] at ha; exact hx a ha
    · rw [e1] at ha; cases ha
  · rename_i e
    rw [Tr.get_set_ne (by omega) (by omega) (by omega)] at ha
    exact h.b j a (by omega) ha
/-- Answers, one by one. -/
def WR (ρ : Env) (c : Pc) (l : List (Option A)) (os : List Int) : Prop := ∀ j, WOA ρ c (l.getD j none) (os.getD j 0)
def WRB (ρ : Env) (c : Pc) (l : List (Option B)) (os : List Bool) : Prop := ∀ j, WOB ρ c (l.getD j none) (os.getD j false)
theorem WR.up {ρ ρ' : Env} {c c' : Pc} {l : List (Option A)} {os : List Int} (h : WR ρ c l os) (u : Up ρ c ρ' c') : WR ρ' c' l os := fun j => (h j).up u
theorem WRB.up {ρ ρ' : Env} {c c' : Pc} {l : List (Option B)} {os : List Bool} (h : WRB ρ c l os) (u : Up ρ c ρ' c') : WRB ρ' c' l os := fun j => (h j).up u
theorem WR.nil {ρ : Env} {c : Pc} {os : List Int} : WR ρ c [] os := fun j => WOA.none
theorem WRB.nil {ρ : Env} {c : Pc} {os : List Bool} : WRB ρ c [] os := fun j => WOB.none
theorem WR.cons {ρ : Env} {c : Pc} {x : Option A} {v : Int} {l : List (Option A)} {os : List Int} (hx : WOA ρ c x v) (h : WR ρ c l os) : WR ρ c (x :: l) (v :: os) := fun j => by
  cases j with
  | zero => exact hx
  | succ j => exact h j
theorem WRB.cons {ρ : Env} {c : Pc} {x : Option B} {v : Bool} {l : List (Option B)} {os : List Bool} (hx : WOB ρ c x v) (h : WRB ρ c l os) : WRB ρ c (x :: l) (v :: os) := fun j => by
  cases j with
  | zero => exact hx
  | succ j => exact h j
theorem WR.tail {ρ : Env} {c : Pc} {l : List (Option A)} {os : List Int} (h : WR ρ c l os) : WR ρ c l.tail os.tail := fun j => by
  have := h (j + 1)
  cases l <;> cases os <;> simpa using this
theorem WRB.tail {ρ : Env} {c : Pc} {l : List (Option B)} {os : List Bool} (h : WRB ρ c l os) : WRB ρ c l.tail os.tail := fun j => by
  have := h (j + 1)
  cases l <;> cases os <;> simpa using this
theorem getD_drop' {α : Type} {d : α} {n j : Nat} {l : List α} : (l.drop n).getD j d = l.getD (n + j) d := by
  simp [List.getD_eq_getElem?_getD]
theorem getD_take' {α : Type} {d : α} {n j : Nat} {l : List α} : (l.take n).getD j d = if j < n then l.getD j d else d := by
  simp only [List.getD_eq_getElem?_getD, List.getElem?_take]
  split <;> simp
theorem WR.drop {ρ : Env} {c : Pc} {l : List (Option A)} {os : List Int} (n : Nat) (h : WR ρ c l os) : WR ρ c (l.drop n) (os.drop n) := fun j => by
  rw [getD_drop', getD_drop']; exact h _
theorem WRB.drop {ρ : Env} {c : Pc} {l : List (Option B)} {os : List Bool} (n : Nat) (h : WRB ρ c l os) : WRB ρ c (l.drop n) (os.drop n) := fun j => by
  rw [getD_drop', getD_drop']; exact h _
theorem WR.take {ρ : Env} {c : Pc} {l : List (Option A)} {os : List Int} (n : Nat) (h : WR ρ c l os) : WR ρ c (l.take n) (os.take n) := fun j => by
  rw [getD_take', getD_take']
  split
  · exact h j
  · exact WOA.none
theorem WRB.take {ρ : Env} {c : Pc} {l : List (Option B)} {os : List Bool} (n : Nat) (h : WRB ρ c l os) : WRB ρ c (l.take n) (os.take n) := fun j => by
  rw [getD_take', getD_take']
  split
  · exact h j
  · exact WOB.none
theorem PeS.pIs_ok {ρ : Env} {c : Pc} {bs : List Bool} : ∀ {n : Nat} {σ : PeS} {is : List Int} {l : List (Option A)} {os : List Int}, σ.ok ρ c is bs → WR ρ c l os → (σ.pIs n l).ok ρ c (is ++ padTo 0 n os) bs
  | 0, σ, is, l, os, h, hl => by simpa [PeS.pIs, padTo] using h
  | n + 1, σ, is, [], os, h, hl => by
    have h2 := PeS.pIs_ok (n := n) (l := []) (os := os.tail) (PeS.pI_ok h (hl 0)) (by simpa using hl.tail)
    rw [padTo_succ]
    simpa [PeS.pIs, List.append_assoc] using h2
  | n + 1, σ, is, x :: l, os, h, hl => by
    have h2 := PeS.pIs_ok (n := n) (l := l) (os := os.tail) (PeS.pI_ok h (hl 0)) (by simpa using hl.tail)
    rw [padTo_succ]
    simpa [PeS.pIs, List.append_assoc] using h2
theorem PeS.pBs_ok {ρ : Env} {c : Pc} {is : List Int} : ∀ {n : Nat} {σ : PeS} {bs : List Bool} {l : List (Option B)} {os : List Bool}, σ.ok ρ c is bs → WRB ρ c l os → (σ.pBs n l).ok ρ c is (bs ++ padTo false n os)
  | 0, σ, bs, l, os, h, hl => by simpa [PeS.pBs, padTo] using h
  | n + 1, σ, bs, [], os, h, hl => by
    have h2 := PeS.pBs_ok (n := n) (l := []) (os := os.tail) (PeS.pB_ok h (hl 0)) (by simpa using hl.tail)
    rw [padTo_succ]
    simpa [PeS.pBs, List.append_assoc] using h2
  | n + 1, σ, bs, x :: l, os, h, hl => by
    have h2 := PeS.pBs_ok (n := n) (l := l) (os := os.tail) (PeS.pB_ok h (hl 0)) (by simpa using hl.tail)
    rw [padTo_succ]
    simpa [PeS.pBs, List.append_assoc] using h2
theorem PeS.as_ok {σ : PeS} {ρ : Env} {c : Pc} {is : List Int} {bs : List Bool} (h : σ.ok ρ c is bs) : ∀ {l : List A}, WR ρ c (l.map σ.a) (l.map (A.d (envOf is bs)))
  | [] => WR.nil
  | x :: l => WR.cons (fun a ha => PeS.a_ok h ha) (PeS.as_ok h)
theorem PeS.bos_ok {σ : PeS} {ρ : Env} {c : Pc} {is : List Int} {bs : List Bool} (h : σ.ok ρ c is bs) : ∀ {l : List B}, WRB ρ c (l.map σ.bo) (l.map (B.d (envOf is bs)))
  | [] => WRB.nil
  | x :: l => WRB.cons (fun a ha => PeS.bo_ok h ha) (PeS.bos_ok h)
/-- What is not known is not told. -/
def p1 {α β : Type} (o : Option α) (f : α → Pm β) : Pm (Option β) := match o with
  | some x => fun k => f x fun y => k (some y)
  | none => fun k => k none
def p2 {α β γ : Type} (o : Option α) (q : Option β) (f : α → β → Pm γ) : Pm (Option γ) := match o, q with
  | some x, some y => fun k => f x y fun z => k (some z)
  | _, _ => fun k => k none
def peI (σ : PeS) : RI → Pm (Option A)
  | .ar op k a b => p2 (σ.a a) (σ.a b) (pAr op k)
  | .cv k a => p1 (σ.a a) (pCv k)
  | .ite g a b => match σ.bo g with
    | some (.c true) => fun k => k (σ.a a)
    | some (.c false) => fun k => k (σ.a b)
    | some g => p2 (σ.a a) (σ.a b) (pIte g)
    | none => fun k => k none
  | .mn a b => p2 (σ.a a) (σ.a b) pMn
  | .mx a b => p2 (σ.a a) (σ.a b) pMx
  | .tab l a => p1 (σ.a a) (pTab l)
  | .get q a s k => p2 (σ.a q) (σ.a a) fun x y => pI (.get x y s k)
  | .lenq q s => p1 (σ.a q) fun x => pI (.lenq x s)
def peB (σ : PeS) : RB → Pm (Option B)
  | .cm op a b => p2 (σ.a a) (σ.a b) (pCm op)
  | .not a => p1 (σ.bo a) pNot
  | .and a b => match σ.bo a, σ.bo b with
    | some (.c false), _ => fun k => k (some (.c false))
    | _, some (.c false) => fun k => k (some (.c false))
    | x, y => p2 x y pAnd
  | .or a b => match σ.bo a, σ.bo b with
    | some (.c true), _ => fun k => k (some (.c true))
    | _, some (.c true) => fun k => k (some (.c true))
    | x, y => p2 x y pOr
  | .eqb a b => p2 (σ.bo a) (σ.bo b) pEqb
  | .ite g a b => match σ.bo g with
    | some (.c true) => fun k => k (σ.bo a)
    | some (.c false) => fun k => k (σ.bo b)
    | some g => p2 (σ.bo a) (σ.bo b) (pIteB g)
    | none => fun k => k none
  | .getb q a s k => p2 (σ.a q) (σ.a a) fun x y => pB (.getb x y s k)
section
variable {chk : List (Option A) → List (Option B) → Pc → Bool} {ρ : Env} {c : Pc} {σ : PeS} {is : List Int} {bs : List Bool}
theorem p1_ok {α β : Type} {o : Option α} {f : α → Pm β} {p : Env → Pc → Option β → Prop} (hs : StOk ρ c) (h0 : ∀ ρ c, p ρ c none) (h : ∀ x, o = some x → Does chk (f x) ρ c (fun ρ' c' y => p ρ' c' (some y))) : Does chk (p1 o f) ρ c p := by
  intro k hk
  unfold p1 at hk
  split at hk
  · rename_i x
    obtain ⟨ρ', c', y, u, hp, h'⟩ := h x rfl _ hk
    exact ⟨ρ', c', _, u, hp, h'⟩
  · exact ⟨ρ, c, none, Up.refl hs, h0 _ _, hk⟩
theorem p2_ok {α β γ : Type} {o : Option α} {q : Option β} {f : α → β → Pm γ} {p : Env → Pc → Option γ → Prop} (hs : StOk ρ c) (h0 : ∀ ρ c, p ρ c none) (h : ∀ x y, o = some x → q = some y → Does chk (f x y) ρ c (fun ρ' c' z => p ρ' c' (some z))) : Does chk (p2 o q f) ρ c p := by
  intro k hk
  unfold p2 at hk
  split at hk
  · rename_i x y
    obtain ⟨ρ', c', z, u, hp, h'⟩ := h x y rfl rfl _ hk
    exact ⟨ρ', c', _, u, hp, h'⟩
  · exact ⟨ρ, c, none, Up.refl hs, h0 _ _, hk⟩
theorem Does.wa {m : Pm A} {v : Int} (h : Does chk m ρ c (fun ρ' c' z => WA ρ' c' z v)) : Does chk m ρ c (fun ρ' c' z => WOA ρ' c' (some z) v) := h.mono fun _ _ _ _ hh => WOA.some hh
theorem Does.wb {m : Pm B} {v : Bool} (h : Does chk m ρ c (fun ρ' c' z => WB ρ' c' z v)) : Does chk m ρ c (fun ρ' c' z => WOB ρ' c' (some z) v) := h.mono fun _ _ _ _ hh => WOB.some hh
theorem peI_ok (hs : StOk ρ c) (h : σ.ok ρ c is bs) (r : RI) : Does chk (peI σ r) ρ c (fun ρ' c' z => WOA ρ' c' z (r.d (envOf is bs))) := by
  cases r with
  | ar op k a b => exact p2_ok hs (fun _ _ => WOA.none) fun x y hx hy => (pAr_ok hs (PeS.a_ok h hx) (PeS.a_ok h hy)).wa
  | cv k a => exact p1_ok hs (fun _ _ => WOA.none) fun x hx => (pCv_ok hs (PeS.a_ok h hx)).wa
  | ite g a b =>
    show Does chk (match σ.bo g with
      | some (.c true) => fun k => k (σ.a a)
      | some (.c false) => fun k => k (σ.a b)
      | some g => p2 (σ.a a) (σ.a b) (pIte g)
      | none => fun k => k none) ρ c _
    split
    · rename_i hg
      have := (PeS.bo_ok h hg).inv
      exact Does.pure hs fun x hx => by simp only [RI.d, this]; exact PeS.a_ok h hx
    · rename_i hg
      have := (PeS.bo_ok h hg).inv
      exact Does.pure hs fun x hx => by simp only [RI.d, this]; exact PeS.a_ok h hx
    · rename_i w _ _ hg
      exact p2_ok hs (fun _ _ => WOA.none) fun x y hx hy => (pIte_ok hs (PeS.bo_ok h hg) (PeS.a_ok h hx) (PeS.a_ok h hy)).wa
    · exact Does.pure hs WOA.none
  | mn a b => exact p2_ok hs (fun _ _ => WOA.none) fun x y hx hy => (pMn_ok hs (PeS.a_ok h hx) (PeS.a_ok h hy)).wa
  | mx a b => exact p2_ok hs (fun _ _ => WOA.none) fun x y hx hy => (pMx_ok hs (PeS.a_ok h hx) (PeS.a_ok h hy)).wa
  | tab l a => exact p1_ok hs (fun _ _ => WOA.none) fun x hx => (pTab_ok hs (PeS.a_ok h hx)).wa
  | get q a s k => exact p2_ok hs (fun _ _ => WOA.none) fun x y hx hy => (pI_ok hs (fun ρ' ha => by simp only [RI.d]; rw [PeS.a_ok h hx ρ' ha, PeS.a_ok h hy ρ' ha])).wa
  | lenq q s => exact p1_ok hs (fun _ _ => WOA.none) fun x hx => (pI_ok hs (fun ρ' ha => by simp only [RI.d]; rw [PeS.a_ok h hx ρ' ha])).wa
theorem peB_ok (hs : StOk ρ c) (h : σ.ok ρ c is bs) (r : RB) : Does chk (peB σ r) ρ c (fun ρ' c' z => WOB ρ' c' z (r.d (envOf is bs))) := by
  cases r with
  | cm op a b => exact p2_ok hs (fun _ _ => WOB.none) fun x y hx hy => (pCm_ok hs (PeS.a_ok h hx) (PeS.a_ok h hy)).wb
  | not a => exact p1_ok hs (fun _ _ => WOB.none) fun x hx => (pNot_ok hs (PeS.bo_ok h hx)).wb
  | and a b =>
    show Does chk (match σ.bo a, σ.bo b with
      | some (.c false), _ => fun k => k (some (.c false))
      | _, some (.c false) => fun k => k (some (.c false))
      | x, y => p2 x y pAnd) ρ c _
    split
    · rename_i hg
      exact Does.pure hs (WOB.some (by rw [show RB.d (envOf is bs) (.and a b) = false by simp [RB.d, (PeS.bo_ok h hg).inv]]; exact WB.c))
    · rename_i hg _
      exact Does.pure hs (WOB.some (by rw [show RB.d (envOf is bs) (.and a b) = false by simp [RB.d, (PeS.bo_ok h hg).inv]]; exact WB.c))
    · exact p2_ok hs (fun _ _ => WOB.none) fun x y hx hy => (pAnd_ok hs (PeS.bo_ok h hx) (PeS.bo_ok h hy)).wb
  | or a b =>
    show Does chk (match σ.bo a, σ.bo b with
      | some (.c true), _ => fun k => k (some (.c true))
      | _, some (.c true) => fun k => k (some (.c true))
      | x, y => p2 x y pOr) ρ c _
    split
    · rename_i hg
      exact Does.pure hs (WOB.some (by rw [show RB.d (envOf is bs) (.or a b) = true by simp [RB.d, (PeS.bo_ok h hg).inv]]; exact WB.c))
    · rename_i hg _
      exact Does.pure hs (WOB.some (by rw [show RB.d (envOf is bs) (.or a b) = true by simp [RB.d, (PeS.bo_ok h hg).inv]]; exact WB.c))
    · exact p2_ok hs (fun _ _ => WOB.none) fun x y hx hy => (pOr_ok hs (PeS.bo_ok h hx) (PeS.bo_ok h hy)).wb
  | eqb a b => exact p2_ok hs (fun _ _ => WOB.none) fun x y hx hy => (pEqb_ok hs (PeS.bo_ok h hx) (PeS.bo_ok h hy)).wb
  | ite g a b =>
    show Does chk (match σ.bo g with
      | some (.c true) => fun k => k (σ.bo a)
      | some (.c false) => fun k => k (σ.bo b)
      | some g => p2 (σ.bo a) (σ.bo b) (pIteB g)
      | none => fun k => k none) ρ c _
    split
    · rename_i hg
      have := (PeS.bo_ok h hg).inv
      exact Does.pure hs fun x hx => by simp only [RB.d, this]; exact PeS.bo_ok h hx
    · rename_i hg
      have := (PeS.bo_ok h hg).inv
      exact Does.pure hs fun x hx => by simp only [RB.d, this]; exact PeS.bo_ok h hx
    · rename_i w _ _ hg
      exact p2_ok hs (fun _ _ => WOB.none) fun x y hx hy => (pIteB_ok hs (PeS.bo_ok h hg) (PeS.bo_ok h hx) (PeS.bo_ok h hy)).wb
    · exact Does.pure hs WOB.none
  | getb q a s k => exact p2_ok hs (fun _ _ => WOB.none) fun x y hx hy => (pB_ok hs (fun ρ' ha => by simp only [RB.d]; rw [PeS.a_ok h hx ρ' ha, PeS.a_ok h hy ρ' ha])).wb
end
/-! ### A function -/
abbrev PeF := List (Option A) → List (Option B) → Pm (List (Option A) × List (Option B))
def EOk (F : Fun) (p : PeF) : Prop := ∀ (chk : List (Option A) → List (Option B) → Pc → Bool) (is : List Int) (bs : List Bool) (ai : List (Option A)) (ab : List (Option B)) (ρ : Env) (c : Pc), StOk ρ c → ai.length = is.length → ab.length = bs.length → WR ρ c ai is → WRB ρ c ab bs →
  Does chk (p ai ab) ρ c (fun ρ' c' r => WR ρ' c' r.1 (F is bs).1 ∧ WRB ρ' c' r.2 (F is bs).2)
def PeF.nil : PeF := fun _ _ _ c => .bad (.c false) c
theorem EOk.nil {F : Fun} : EOk F PeF.nil := fun _ _ _ _ _ _ _ _ _ _ _ _ k hk => by cases hk
/-- A condition that cannot hold. -/
def PeS.off (σ : PeS) (g : Gd) : Bool := g.any fun p => match σ.bo p.1 with
  | some (.c v) => v != p.2
  | _ => false
/-- 'gs': conditions under which the calls' answers are asked for, call by call. -/
def peE (T : Nat → PeF) : List Em → List Gd → PeS → Pm PeS
  | [], _, σ, k, c => k σ c
  | .di _ r :: l, gs, σ, k, c => peI σ r (fun a c => peE T l gs (σ.pI a) k c) c
  | .db _ r :: l, gs, σ, k, c => peB σ r (fun a c => peE T l gs (σ.pB a) k c) c
  | .call f ai ab _ ni _ nb :: l, gs, σ, k, c => match σ.off (gs.headD []) with
    | true => peE T l gs.tail ((σ.pIs ni []).pBs nb []) k c
    | false => T f (ai.map σ.a) (ab.map σ.bo) (fun r c => peE T l gs.tail ((σ.pIs ni r.1).pBs nb r.2) k c) c
  | .ob _ _ :: l, gs, σ, k, c => peE T l gs σ k c
theorem peE_ok {chk : List (Option A) → List (Option B) → Pc → Bool} {Φ : Funs} {T : Nat → PeF} (hT : ∀ f, EOk (Φ f) (T f)) : ∀ {l : List Em} {gs : List Gd} {σ : PeS} {ρ : Env} {c : Pc} {is : List Int} {bs : List Bool}, StOk ρ c → σ.ok ρ c is bs →
    Does chk (peE T l gs σ) ρ c (fun ρ' c' σ' => σ'.ok ρ' c' (evEm Φ l is bs).1 (evEm Φ l is bs).2)
  | [], gs, σ, ρ, c, is, bs, hs, h => fun k hk => ⟨ρ, c, σ, Up.refl hs, h, hk⟩
  | .di _ r :: l, gs, σ, ρ, c, is, bs, hs, h => by
    intro k hk
    obtain ⟨ρ', c', x, u, hp, hk'⟩ := peI_ok hs h r _ hk
    obtain ⟨ρ'', c'', y, u', hq, h'⟩ := peE_ok hT (l := l) (gs := gs) u.st (PeS.pI_ok (h.up u) hp) k hk'
    exact ⟨ρ'', c'', y, u.trans u', hq, h'⟩
  | .db _ r :: l, gs, σ, ρ, c, is, bs, hs, h => by
    intro k hk
    obtain ⟨ρ', c', x, u, hp, hk'⟩ := peB_ok hs h r _ hk
    obtain ⟨ρ'', c'', y, u', hq, h'⟩ := peE_ok hT (l := l) (gs := gs) u.st (PeS.pB_ok (h.up u) hp) k hk'
    exact ⟨ρ'', c'', y, u.trans u', hq, h'⟩
  | .call f ai ab _ ni _ nb :: l, gs, σ, ρ, c, is, bs, hs, h => by
    intro k hk
    unfold peE at hk
    split at hk
    · exact peE_ok hT (l := l) (gs := gs.tail) hs (PeS.pBs_ok (n := nb) (PeS.pIs_ok (n := ni) h WR.nil) WRB.nil) k hk
    · obtain ⟨ρ', c', r, u, hp, hk'⟩ := hT f chk (ai.map (A.d (envOf is bs))) (ab.map (B.d (envOf is bs))) (ai.map σ.a) (ab.map σ.bo) ρ c hs (by simp) (by simp) (PeS.as_ok h) (PeS.bos_ok h) _ hk
      obtain ⟨ρ'', c'', y, u', hq, h'⟩ := peE_ok hT (l := l) (gs := gs.tail) u.st (PeS.pBs_ok (n := nb) (PeS.pIs_ok (n := ni) (h.up u) hp.1) hp.2) k hk'
      exact ⟨ρ'', c'', y, u.trans u', hq, h'⟩
  | .ob _ _ :: l, gs, σ, ρ, c, is, bs, hs, h => fun k hk => peE_ok hT (l := l) (gs := gs) hs h k hk
/-! ### What is owed -/
def peL (σ : PeS) (b : B) (w : Bool) : Pm (Option B) := match w with
  | true => fun k => k (σ.bo b)
  | false => p1 (σ.bo b) pNot
def peG (σ : PeS) : Gd → Pm (Option B)
  | [], k, c => k (some (.c true)) c
  | (b, w) :: g, k, c => peL σ b w (fun y c => peG σ g (fun z c => p2 y z pAnd k c) c) c
def peO (σ : PeS) : List Em → Option B → Pm (Option B)
  | [], o, k, c => k o c
  | .ob g b :: l, o, k, c => match σ.off g with
    | true => peO σ l o k c
    | false => match σ.bo b with
      | some (.c true) => peO σ l o k c
      | x => peG σ g (fun y c => p1 y pNot (fun z c => p2 z x pOr (fun w c => p2 o w pAnd (fun o' c => peO σ l o' k c) c) c) c) c
  | _ :: l, o, k, c => peO σ l o k c
section
variable {chk : List (Option A) → List (Option B) → Pc → Bool} {σ : PeS} {is : List Int} {bs : List Bool}
theorem not1_ok {ρ : Env} {c : Pc} {x : Option B} {v : Bool} (hs : StOk ρ c) (h : WOB ρ c x v) : Does chk (p1 x pNot) ρ c (fun ρ' c' z => WOB ρ' c' z (!v)) :=
  p1_ok hs (fun _ _ => WOB.none) fun y hy => (pNot_ok hs (h y hy)).wb
theorem and2_ok {ρ : Env} {c : Pc} {x y : Option B} {v w : Bool} (hs : StOk ρ c) (h : WOB ρ c x v) (h' : WOB ρ c y w) : Does chk (p2 x y pAnd) ρ c (fun ρ' c' z => WOB ρ' c' z (v && w)) :=
  p2_ok hs (fun _ _ => WOB.none) fun a b ha hb => (pAnd_ok hs (h a ha) (h' b hb)).wb
theorem or2_ok {ρ : Env} {c : Pc} {x y : Option B} {v w : Bool} (hs : StOk ρ c) (h : WOB ρ c x v) (h' : WOB ρ c y w) : Does chk (p2 x y pOr) ρ c (fun ρ' c' z => WOB ρ' c' z (v || w)) :=
  p2_ok hs (fun _ _ => WOB.none) fun a b ha hb => (pOr_ok hs (h a ha) (h' b hb)).wb
theorem peG_ok : ∀ {g : Gd} {ρ : Env} {c : Pc}, StOk ρ c → σ.ok ρ c is bs → Does chk (peG σ g) ρ c (fun ρ' c' z => WOB ρ' c' z (Gd.d (envOf is bs) g))
  | [], ρ, c, hs, h => fun k hk => ⟨ρ, c, _, Up.refl hs, WOB.some WB.c, hk⟩
  | (b, w) :: g, ρ, c, hs, h => by
    intro k hk
    unfold peG at hk
    have hx : WOB ρ c (σ.bo b) (b.d (envOf is bs)) := fun a ha => PeS.bo_ok h ha
    have h1 : Does chk (peL σ b w) ρ c (fun ρ' c' z => WOB ρ' c' z (b.d (envOf is bs) == w)) := by
      cases w
      · exact (not1_ok hs hx).mono fun _ _ _ _ hh => by simpa using hh
      · exact Does.pure hs (by simpa using hx)
    obtain ⟨ρ', c', y, u, hp, hk'⟩ := h1 _ hk
    obtain ⟨ρ2, c2, z, u2, hq, hk2⟩ := peG_ok (g := g) u.st (h.up u) _ hk'
    obtain ⟨ρ3, c3, r, u3, hr, hk3⟩ := and2_ok u2.st (hp.up u2) hq _ hk2
    exact ⟨ρ3, c3, r, (u.trans u2).trans u3, by simpa [Gd.d_cons] using hr, hk3⟩
theorem PeS.off_ok {ρ : Env} {c : Pc} (h : σ.ok ρ c is bs) {g : Gd} (ho : σ.off g = true) : Gd.d (envOf is bs) g = false := by
  unfold PeS.off at ho
  rw [List.any_eq_true] at ho
  obtain ⟨p, hp, h2⟩ := ho
  split at h2
  · rename_i v hv
    have h3 := (PeS.bo_ok h hv).inv
    simp only [bne_iff_ne, ne_eq] at h2
    cases hg : Gd.d (envOf is bs) g
    · rfl
    · exfalso
      have := List.all_eq_true.1 hg p hp
      simp only [beq_iff_eq] at this
      apply h2
      rw [← this]; exact h3.symm
  · cases h2
theorem peO_ok : ∀ {l : List Em} {o : Option B} {v : Bool} {ρ : Env} {c : Pc}, StOk ρ c → σ.ok ρ c is bs → WOB ρ c o v → Does chk (peO σ l o) ρ c (fun ρ' c' z => WOB ρ' c' z (v && obAll (envOf is bs) l))
  | [], o, v, ρ, c, hs, h, ho => fun k hk => ⟨ρ, c, o, Up.refl hs, by simpa [obAll] using ho, hk⟩
  | .ob g b :: l, o, v, ρ, c, hs, h, ho => by
    intro k hk
    unfold peO at hk
    split at hk
    · rename_i hoff
      obtain ⟨ρ', c', z, u, hp, hk'⟩ := peO_ok (l := l) hs h ho k hk
      exact ⟨ρ', c', z, u, by simpa [obAll, PeS.off_ok h hoff] using hp, hk'⟩
    · split at hk
      · rename_i hx
        have hx := PeS.bo_ok h hx
        obtain ⟨ρ', c', z, u, hp, hk'⟩ := peO_ok (l := l) hs h ho k hk
        exact ⟨ρ', c', z, u, by simpa [obAll, hx.inv] using hp, hk'⟩
      · have hx : WOB ρ c (σ.bo b) (b.d (envOf is bs)) := fun a ha => PeS.bo_ok h ha
        obtain ⟨ρ1, c1, y, u1, h1, hk1⟩ := peG_ok (g := g) hs h _ hk
        obtain ⟨ρ2, c2, z, u2, h2, hk2⟩ := not1_ok u1.st h1 _ hk1
        obtain ⟨ρ3, c3, w, u3, h3, hk3⟩ := or2_ok u2.st h2 (hx.up (u1.trans u2)) _ hk2
        obtain ⟨ρ4, c4, o', u4, h4, hk4⟩ := and2_ok u3.st (ho.up ((u1.trans u2).trans u3)) h3 _ hk3
        obtain ⟨ρ', c', r, u, hp, hk'⟩ := peO_ok (l := l) u4.st (h.up (((u1.trans u2).trans u3).trans u4)) h4 k hk4
        exact ⟨ρ', c', r, (((u1.trans u2).trans u3).trans u4).trans u, by simpa [obAll, Bool.and_assoc] using hp, hk'⟩
  | .di _ _ :: l, o, v, ρ, c, hs, h, ho => fun k hk => peO_ok (l := l) hs h ho k hk
  | .db _ _ :: l, o, v, ρ, c, hs, h, ho => fun k hk => peO_ok (l := l) hs h ho k hk
  | .call _ _ _ _ _ _ _ :: l, o, v, ρ, c, hs, h, ho => fun k hk => peO_ok (l := l) hs h ho k hk
end
def PeS.of (li : List (Option A)) (lb : List (Option B)) : PeS := (PeS.pIs ⟨0, 0, .e, .e⟩ li.length li).pBs lb.length lb
theorem padTo_self' {α : Type} (d : α) : ∀ (l : List α), padTo d l.length l = l
  | [] => rfl
  | x :: l => by simp [padTo, padTo_self' d l]
theorem PeS.of_ok {ρ : Env} {c : Pc} {li : List (Option A)} {lb : List (Option B)} {is : List Int} {bs : List Bool} (hi : WR ρ c li is) (hb : WRB ρ c lb bs) (h1 : li.length = is.length) (h2 : lb.length = bs.length) : (PeS.of li lb).ok ρ c is bs := by
  have h0 : (⟨0, 0, .e, .e⟩ : PeS).ok ρ c [] [] := ⟨rfl, rfl, fun j a hj => absurd hj (Nat.not_lt_zero j), fun j a hj => absurd hj (Nat.not_lt_zero j)⟩
  have := PeS.pBs_ok (n := lb.length) (PeS.pIs_ok (n := li.length) h0 hi) hb
  rw [h1, padTo_self', h2, padTo_self'] at this
  simpa [PeS.of, h1, h2] using this
def Smry.pe (T : Nat → PeF) (gs : List Gd) (pre : Bool) (S : Smry) : PeF := fun ai ab k c =>
  peE T S.em gs (PeS.of ai ab) (fun σ c => match pre with
    | true => peO σ S.em (some (.c true)) (fun o c => k (S.ri.map σ.a, o :: S.rb.map σ.bo) c) c
    | false => k (S.ri.map σ.a, S.rb.map σ.bo) c) c
theorem Smry.pe_lens {chk : List (Option A) → List (Option B) → Pc → Bool} {Φ : Funs} {T : Nat → PeF} (hT : ∀ f, EOk (Φ f) (T f)) {gs : List Gd} {S : Smry} {pre : Bool} {is : List Int} {bs : List Bool} {ai : List (Option A)} {ab : List (Option B)} {ρ : Env} {c : Pc} (hs : StOk ρ c) (h1 : ai.length = is.length) (h2 : ab.length = bs.length) (hi : WR ρ c ai is) (hb : WRB ρ c ab bs) :
    Does chk (S.pe T gs pre ai ab) ρ c (fun ρ' c' r => (WR ρ' c' r.1 (S.run Φ pre is bs).1 ∧ WRB ρ' c' r.2 (S.run Φ pre is bs).2) ∧ r.1.length = (S.run Φ pre is bs).1.length ∧ r.2.length = (S.run Φ pre is bs).2.length) := by
  intro k hk
  unfold Smry.pe at hk
  obtain ⟨ρ', c', σ, u, hσ, hk'⟩ := peE_ok hT (l := S.em) (gs := gs) hs (PeS.of_ok hi hb h1 h2) _ hk
  cases pre
  · exact ⟨ρ', c', _, u, ⟨⟨PeS.as_ok hσ, by simpa [Smry.run] using PeS.bos_ok hσ⟩, by simp [Smry.run], by simp [Smry.run]⟩, hk'⟩
  · obtain ⟨ρ2, c2, o, u2, ho, hk2⟩ := peO_ok u.st hσ (WOB.some WB.c) _ hk'
    exact ⟨ρ2, c2, _, u.trans u2, ⟨⟨(PeS.as_ok hσ).up u2, by
      simp only [Smry.run, if_true, List.singleton_append]
      exact WRB.cons (by simpa using ho) ((PeS.bos_ok hσ).up u2)⟩, by simp [Smry.run], by simp [Smry.run]⟩, hk2⟩
theorem Smry.pe_ok {Φ : Funs} {T : Nat → PeF} (hT : ∀ f, EOk (Φ f) (T f)) {gs : List Gd} {pre : Bool} {S : Smry} : EOk (S.run Φ pre) (S.pe T gs pre) := by
  intro chk is bs ai ab ρ c hs h1 h2 hi hb
  exact (Smry.pe_lens hT hs h1 h2 hi hb).mono fun _ _ _ _ h => h.1
/-- What is owed is not looked at. -/
def Smry.peN (T : Nat → PeF) (gs : List Gd) (pre : Bool) (S : Smry) : PeF := fun ai ab k c =>
  peE T S.em gs (PeS.of ai ab) (fun σ c => k (S.ri.map σ.a, match pre with
    | true => none :: S.rb.map σ.bo
    | false => S.rb.map σ.bo) c) c
theorem Smry.peN_ok {Φ : Funs} {T : Nat → PeF} (hT : ∀ f, EOk (Φ f) (T f)) {gs : List Gd} {pre : Bool} {S : Smry} : EOk (S.run Φ pre) (S.peN T gs pre) := by
  intro chk is bs ai ab ρ c hs h1 h2 hi hb k hk
  unfold Smry.peN at hk
  obtain ⟨ρ', c', σ, u, hσ, hk'⟩ := peE_ok hT (l := S.em) (gs := gs) hs (PeS.of_ok hi hb h1 h2) _ hk
  cases pre
  · exact ⟨ρ', c', _, u, ⟨PeS.as_ok hσ, by simpa [Smry.run] using PeS.bos_ok hσ⟩, hk'⟩
  · exact ⟨ρ', c', _, u, ⟨PeS.as_ok hσ, by
      simp only [Smry.run, if_true, List.singleton_append]
      exact WRB.cons WOB.none (PeS.bos_ok hσ)⟩, hk'⟩
theorem evEm_app {Φ : Funs} : ∀ {l : List Em} {is : List Int} {bs : List Bool}, ∃ ks cs, evEm Φ l is bs = (is ++ ks, bs ++ cs)
  | [], is, bs => ⟨[], [], by simp [evEm]⟩
  | .di _ r :: l, is, bs => by
    obtain ⟨ks, cs, h⟩ := evEm_app (Φ := Φ) (l := l) (is := is ++ [r.d (envOf is bs)]) (bs := bs)
    exact ⟨r.d (envOf is bs) :: ks, cs, by simp [evEm, h]⟩
  | .db _ r :: l, is, bs => by
    obtain ⟨ks, cs, h⟩ := evEm_app (Φ := Φ) (l := l) (is := is) (bs := bs ++ [r.d (envOf is bs)])
    exact ⟨ks, r.d (envOf is bs) :: cs, by simp [evEm, h]⟩
  | .call f ai ab _ ni _ nb :: l, is, bs => by
    obtain ⟨ks, cs, h⟩ := evEm_app (Φ := Φ) (l := l) (is := is ++ padTo 0 ni (Φ f (ai.map (A.d (envOf is bs))) (ab.map (B.d (envOf is bs)))).1) (bs := bs ++ padTo false nb (Φ f (ai.map (A.d (envOf is bs))) (ab.map (B.d (envOf is bs)))).2)
    exact ⟨padTo 0 ni (Φ f (ai.map (A.d (envOf is bs))) (ab.map (B.d (envOf is bs)))).1 ++ ks, padTo false nb (Φ f (ai.map (A.d (envOf is bs))) (ab.map (B.d (envOf is bs)))).2 ++ cs, by simp only [evEm]; rw [h]; simp only [List.append_assoc]⟩
  | .ob _ _ :: l, is, bs => evEm_app (Φ := Φ) (l := l)
/-- What a function hands through is told alone. -/
def Smry.peF (pre : Bool) (S : Smry) : PeF := fun ai ab k c => match PeS.of ai ab with
  | σ => k (S.ri.map σ.a, match pre with
    | true => none :: S.rb.map σ.bo
    | false => S.rb.map σ.bo) c
theorem Smry.peF_ok {Φ : Funs} {pre : Bool} {S : Smry} : EOk (S.run Φ pre) (S.peF pre) := by
  intro chk is bs ai ab ρ c hs h1 h2 hi hb k hk
  have hσ := PeS.of_ok hi hb h1 h2
  obtain ⟨ks, cs, he⟩ := evEm_app (Φ := Φ) (l := S.em) (is := is) (bs := bs)
  have ha : ∀ x y, (PeS.of ai ab).a x = some y → WA ρ c y (x.d (envOf (evEm Φ S.em is bs).1 (evEm Φ S.em is bs).2)) := by
    intro x y hx
    have h3 := PeS.a_ok hσ hx
    rw [he]
    cases x with
    | c v => exact h3
    | v n =>
      have : n < is.length := by
        rw [← hσ.ni]
        simp only [PeS.a] at hx
        split at hx
        · rename_i h; exact Nat.le_of_ble_eq_true h
        · cases hx
      have e : A.d (envOf (is ++ ks) (bs ++ cs)) (.v n) = A.d (envOf is bs) (.v n) := by
        simp only [A.d, envOf]
        rw [getD_append_left _ _ _ _ this]
      rw [e]; exact h3
  have hbo : ∀ x y, (PeS.of ai ab).bo x = some y → WB ρ c y (x.d (envOf (evEm Φ S.em is bs).1 (evEm Φ S.em is bs).2)) := by
    intro x y hx
    have h3 := PeS.bo_ok hσ hx
    rw [he]
    cases x with
    | c v => exact h3
    | v n =>
      have : n < bs.length := by
        rw [← hσ.nb]
        simp only [PeS.bo] at hx
        split at hx
        · rename_i h; exact Nat.le_of_ble_eq_true h
        · cases hx
      have e : B.d (envOf (is ++ ks) (bs ++ cs)) (.v n) = B.d (envOf is bs) (.v n) := by
        simp only [B.d, envOf]
        rw [getD_append_left _ _ _ _ this]
      rw [e]; exact h3
  have w1 : ∀ l : List A, WR ρ c (l.map (PeS.of ai ab).a) (l.map (A.d (envOf (evEm Φ S.em is bs).1 (evEm Φ S.em is bs).2))) := by
    intro l
    induction l with
    | nil => exact WR.nil
    | cons x l ih => exact WR.cons (fun y hy => ha x y hy) ih
  have w2 : ∀ l : List B, WRB ρ c (l.map (PeS.of ai ab).bo) (l.map (B.d (envOf (evEm Φ S.em is bs).1 (evEm Φ S.em is bs).2))) := by
    intro l
    induction l with
    | nil => exact WRB.nil
    | cons x l ih => exact WRB.cons (fun y hy => hbo x y hy) ih
  unfold Smry.peF at hk
  cases pre
  · exact ⟨ρ, c, _, Up.refl hs, ⟨w1 _, by simpa [Smry.run] using w2 S.rb⟩, hk⟩
  · exact ⟨ρ, c, _, Up.refl hs, ⟨w1 _, by
      simp only [Smry.run, if_true, List.singleton_append]
      exact WRB.cons WOB.none (w2 _)⟩, hk⟩
/-- Nothing is told. -/
def PeF.non : PeF := fun _ _ k c => k ([], []) c
theorem PeF.non_ok {F : Fun} : EOk F PeF.non := fun _ _ _ _ _ ρ c hs _ _ _ _ k hk => ⟨ρ, c, _, Up.refl hs, ⟨WR.nil, WRB.nil⟩, hk⟩
/-- The first answer is known to be true. -/
def PeF.hd (q : List (Option A) → List (Option B) → Pc → Bool) (p : PeF) : PeF := fun ai ab k c => match q ai ab c with
  | true => p ai ab (fun r c => k (r.1, some (.c true) :: r.2.tail) c) c
  | false => .bad (.c true) c
theorem PeF.hd_ok {F : Fun} {q : List (Option A) → List (Option B) → Pc → Bool} {p : PeF} (hp : EOk F p) (hq : ∀ (is : List Int) (bs : List Bool) (ai : List (Option A)) (ab : List (Option B)) (ρ : Env) (c : Pc), StOk ρ c → ai.length = is.length → ab.length = bs.length → WR ρ c ai is → WRB ρ c ab bs → q ai ab c = true → (F is bs).2.getD 0 false = true) :
    EOk F (PeF.hd q p) := by
  intro chk is bs ai ab ρ c hs h1 h2 hi hb k hk
  unfold PeF.hd at hk
  split at hk
  · rename_i h
    obtain ⟨ρ', c', r, u, ⟨h3, h4⟩, h5⟩ := hp chk is bs ai ab ρ c hs h1 h2 hi hb _ hk
    refine ⟨ρ', c', (r.1, some (.c true) :: r.2.tail), u, ⟨h3, fun j => ?_⟩, h5⟩
    cases j with
    | zero => exact WOB.some (by rw [hq is bs ai ab ρ c hs h1 h2 hi hb h]; exact WB.c)
    | succ j =>
      have := h4 (j + 1)
      cases hr : r.2 with
      | nil => exact WOB.none
      | cons x l => rw [hr] at this; exact this
  · cases hk
/-- A loop, turn by turn. -/
def Smry.peLoop (T : Nat → PeF) (gs : List Gd) (S : Smry) (nI nB : Nat) : Nat → PeF
  | 0 => PeF.nil
  | n + 1 => fun ai ab k c => S.pe T gs true ai ab (fun r c => match r.2 with
    | some (.c true) :: some (.c true) :: rb => S.peLoop T gs nI nB n (r.1.take nI) (rb.take nB) k c
    | some (.c true) :: some (.c false) :: rb => k (r.1.drop nI, some (.c true) :: rb.drop nB) c
    | some (.c true) :: some b :: _ => .bad b c
    | some b :: _ => .bad b c
    | _ => .bad (.c true) c) c
theorem Smry.peLoop_run {chk : List (Option A) → List (Option B) → Pc → Bool} {Φ : Funs} {T : Nat → PeF} (hT : ∀ f, EOk (Φ f) (T f)) {gs : List Gd} {S : Smry} {nI nB : Nat} : ∀ {n : Nat} {is : List Int} {bs : List Bool} {ai : List (Option A)} {ab : List (Option B)} {ρ : Env} {c : Pc},
    StOk ρ c → ai.length = is.length → ab.length = bs.length → WR ρ c ai is → WRB ρ c ab bs →
    Does chk (S.peLoop T gs nI nB n ai ab) ρ c (fun ρ' c' r => ∃ m o, LRun (S.run Φ true) nI nB m is bs o ∧ WR ρ' c' r.1 o.1 ∧ WRB ρ' c' r.2 (true :: o.2))
  | 0, is, bs, ai, ab, ρ, c, hs, h1, h2, hi, hb => fun k hk => by cases hk
  | n + 1, is, bs, ai, ab, ρ, c, hs, h1, h2, hi, hb => by
    intro k hk
    unfold Smry.peLoop at hk
    obtain ⟨ρ', c', r, u, ⟨⟨hp1, hp2⟩, hl1, hl2⟩, hk'⟩ := Smry.pe_lens hT (S := S) hs h1 h2 hi hb _ hk
    obtain ⟨ri, ro⟩ := r
    simp only at hp1 hp2 hl1 hl2 hk'
    split at hk'
    · rename_i rb
      cases hr : (S.run Φ true is bs).2 with
      | nil => rw [hr] at hl2; simp at hl2
      | cons b0 l0 =>
        cases l0 with
        | nil => rw [hr] at hl2; simp at hl2
        | cons b1 l1 =>
          rw [hr] at hp2 hl2
          have a0 : b0 = true := (hp2 0 _ rfl).inv
          have a1 : b1 = true := (hp2 1 _ rfl).inv
          subst a0; subst a1
          have hp3 : WRB ρ' c' rb l1 := hp2.tail.tail
          simp only [List.length_cons] at hl2
          obtain ⟨ρ2, c2, r2, u2, ⟨m, o, hm, h3, h4⟩, hk2⟩ := Smry.peLoop_run hT (gs := gs) (S := S) (n := n) (nI := nI) (nB := nB) (is := (S.run Φ true is bs).1.take nI) (bs := l1.take nB) u.st (by simp [hl1]) (by simp; omega) (hp1.take nI) (hp3.take nB) k hk'
          exact ⟨ρ2, c2, r2, u.trans u2, ⟨m + 1, o, .turn hr hm, h3, h4⟩, hk2⟩
    · rename_i rb
      cases hr : (S.run Φ true is bs).2 with
      | nil => rw [hr] at hl2; simp at hl2
      | cons b0 l0 =>
        cases l0 with
        | nil => rw [hr] at hl2; simp at hl2
        | cons b1 l1 =>
          rw [hr] at hp2 hl2
          have a0 : b0 = true := (hp2 0 _ rfl).inv
          have a1 : b1 = false := (hp2 1 _ rfl).inv
          subst a0; subst a1
          have hp3 : WRB ρ' c' rb l1 := hp2.tail.tail
          exact ⟨ρ', c', _, u, ⟨1, _, .stop hr, hp1.drop nI, WRB.cons (WOB.some WB.c) (hp3.drop nB)⟩, hk'⟩
    · cases hk'
    · cases hk'
    · cases hk'
theorem Smry.peLoop_ok {Φ : Funs} {T : Nat → PeF} (hT : ∀ f, EOk (Φ f) (T f)) {gs : List Gd} {S : Smry} {nI nB n : Nat} : EOk (loopF (S.run Φ true) nI nB) (S.peLoop T gs nI nB n) := by
  intro chk is bs ai ab ρ c hs h1 h2 hi hb
  refine (Smry.peLoop_run hT (gs := gs) (S := S) (n := n) (nI := nI) (nB := nB) hs h1 h2 hi hb).mono fun ρ' c' r u h => ?_
  obtain ⟨m, o, hm, h3, h4⟩ := h
  rw [loopF_of hm]
  exact ⟨h3, h4⟩
/-- A function with loops: of each loop so many turns are looked at. -/
def lpE : List (LAnn × List Gd) → Nat → (Nat → PeF) → Nat → PeF
  | [], _, T => T
  | L :: l, k, T => fun n => if n == L.1.id then L.1.S.peLoop (lpE l k T) L.2 L.1.nI L.1.nB k else lpE l k T n
theorem lpE_ok {Φ : Funs} {T : Nat → PeF} {k : Nat} (hT : ∀ f, EOk (Φ f) (T f)) : ∀ {l : List (LAnn × List Gd)} (f : Nat), EOk (lpF (l.map (·.1)) Φ f) (lpE l k T f)
  | [], f => hT f
  | L :: l, f => by
    simp only [lpE, List.map_cons, lpF]
    split
    · exact Smry.peLoop_ok fun f => lpE_ok hT f
    · exact lpE_ok hT f
def tabE : List (Nat × PeF) → Nat → PeF
  | [], _ => PeF.nil
  | (f, p) :: l, n => if Nat.beq n f then p else tabE l n
theorem tabE_nil : ∀ f, EOk (tabF [] f) (tabE [] f) := fun f => EOk.nil
/-- A constant. -/
def PeF.cst (o : Fl) : PeF := fun _ _ k c => k (o.1.map (fun v => some (.c v)), o.2.map (fun v => some (.c v))) c
theorem WR.map_c {ρ : Env} {c : Pc} : ∀ {l : List Int}, WR ρ c (l.map fun v => some (.c v)) l
  | [] => WR.nil
  | x :: l => WR.cons (WOA.some WA.c) WR.map_c
theorem WRB.map_c {ρ : Env} {c : Pc} : ∀ {l : List Bool}, WRB ρ c (l.map fun v => some (.c v)) l
  | [] => WRB.nil
  | x :: l => WRB.cons (WOB.some WB.c) WRB.map_c
theorem PeF.cst_ok {o : Fl} : EOk (fun _ _ => o) (PeF.cst o) := fun _ _ _ _ _ ρ c hs _ _ _ _ k hk => ⟨ρ, c, _, Up.refl hs, ⟨WR.map_c, WRB.map_c⟩, hk⟩
/-- A function of nothing. -/
def PeF.cst0 (o : Fl) : PeF := fun ai ab k c => match ai, ab with
  | [], [] => k (o.1.map (fun v => some (.c v)), o.2.map (fun v => some (.c v))) c
  | _, _ => .bad (.c true) c
theorem PeF.cst0_ok {F : Fun} {o : Fl} (h : F [] [] = o) : EOk F (PeF.cst0 o) := by
  intro chk is bs ai ab ρ c hs h1 h2 hi hb k hk
  unfold PeF.cst0 at hk
  split at hk
  · obtain rfl := List.eq_nil_of_length_eq_zero h1.symm
    obtain rfl := List.eq_nil_of_length_eq_zero h2.symm
    rw [h]
    exact ⟨ρ, c, _, Up.refl hs, ⟨WR.map_c, WRB.map_c⟩, hk⟩
  · cases hk
/-- A function that is known at each number. -/
def PeF.at0 (F : Nat → Fl) : PeF := fun ai _ k c => match ai with
  | [some (.c (.ofNat v))] => k ((F v).1.map (fun v => some (.c v)), (F v).2.map (fun v => some (.c v))) c
  | _ => .bad (.c true) c
theorem PeF.at0_ok {F : Nat → Fl} : EOk (fun is _ => F (is.getD 0 0).toNat) (PeF.at0 F) := by
  intro chk is bs ai ab ρ c hs h1 h2 hi hb k hk
  unfold PeF.at0 at hk
  split at hk
  · rename_i v
    have : is.getD 0 0 = Int.ofNat v := (hi 0 _ rfl).inv
    refine ⟨ρ, c, _, Up.refl hs, ?_, hk⟩
    show WR ρ c _ (F (is.getD 0 0).toNat).1 ∧ WRB ρ c _ (F (is.getD 0 0).toNat).2
    rw [this]
    exact ⟨WR.map_c, WRB.map_c⟩
  · cases hk
theorem tabE_cons {l : List (Nat × Sum × Fun)} {m : List (Nat × PeF)} {f : Nat} {s : Sum} {F : Fun} {p : PeF} (h : EOk F p) (ht : ∀ f, EOk (tabF l f) (tabE m f)) : ∀ g, EOk (tabF ((f, s, F) :: l) g) (tabE ((f, p) :: m) g) := by
  intro g
  unfold tabE
  have hg : tabF ((f, s, F) :: l) g = if g = f then F else tabF l g := by
    simp only [tabF]
    by_cases e : g = f
    · simp [e]
    · simp [e]
  rw [hg]
  by_cases e : g = f
  · rw [if_pos e, if_pos (by simpa using e)]; exact h
  · rw [if_neg e, if_neg (by simpa using e)]; exact ht g
def allSame : List Int → Option Int
  | [] => none
  | [x] => some x
  | x :: l => match allSame l with
    | some y => if x = y then some x else none
    | none => none
theorem allSame_ok {v : Int} : ∀ {l : List Int}, allSame l = some v → ∀ x, x ∈ l → x = v
  | [], h, _, _ => by cases h
  | [y], h, x, hx => by
    cases h
    rcases List.mem_cons.1 hx with rfl | hx
    · rfl
    · cases hx
  | y :: z :: l, h, x, hx => by
    unfold allSame at h
    split at h
    · rename_i w hw
      split at h
      · rename_i e
        cases h
        rcases List.mem_cons.1 hx with rfl | hx
        · rfl
        · exact (allSame_ok hw x hx).trans e.symm
      · cases h
    · cases h
def allSameB : List Bool → Option Bool
  | [] => none
  | [x] => some x
  | x :: l => match allSameB l with
    | some y => if x == y then some x else none
    | none => none
theorem allSameB_ok {v : Bool} : ∀ {l : List Bool}, allSameB l = some v → ∀ x, x ∈ l → x = v
  | [], h, _, _ => by cases h
  | [y], h, x, hx => by
    cases h
    rcases List.mem_cons.1 hx with rfl | hx
    · rfl
    · cases hx
  | y :: z :: l, h, x, hx => by
    unfold allSameB at h
    split at h
    · rename_i w hw
      split at h
      · rename_i e
        cases h
        rcases List.mem_cons.1 hx with rfl | hx
        · rfl
        · exact (allSameB_ok hw x hx).trans (eq_of_beq e).symm
      · cases h
    · cases h
def ocOf (n : Nat) : List (Nat × List Int) → Option (List Int)
  | [] => none
  | (m, O) :: l => if Nat.beq m n then some O else ocOf n l
theorem ocOf_ok {n : Nat} {O : List Int} : ∀ {l : List (Nat × List Int)}, ocOf n l = some O → (n, O) ∈ l
  | [], h => by cases h
  | (m, P) :: l, h => by
    unfold ocOf at h
    split at h
    · rename_i e
      cases h
      rw [Nat.beq_eq] at e
      rw [e]; exact List.mem_cons_self
    · exact List.mem_cons_of_mem _ (ocOf_ok h)
/-- A function of an octet, at one of few. -/
def atOI (F : Nat → Fl) (n : Nat) (O : List Int) : Nat → Nat → Pm (List (Option A))
  | _, 0, k, c => k [] c
  | j, m + 1, k, c => match allSame (O.map fun v => (F v.toNat).1.getD j 0) with
    | some v => atOI F n O (j + 1) m (fun l c => k (some (.c v) :: l) c) c
    | none => pI (.tab ((List.range 256).map fun v => (F v).1.getD j 0) (.v n)) (fun x c => atOI F n O (j + 1) m (fun l c => k (some x :: l) c) c) c
def atOB (F : Nat → Fl) (O : List Int) : Nat → Nat → List (Option B)
  | _, 0 => []
  | j, m + 1 => (match allSameB (O.map fun v => (F v.toNat).2.getD j false) with
    | some v => some (.c v)
    | none => none) :: atOB F O (j + 1) m
def oct (v : Int) : Bool := decide (0 ≤ v) && decide (v < 256)
def PeF.atO (F : Nat → Fl) (ni nb : Nat) : PeF := fun ai ab k c => match ai with
  | [some (.v n)] => match ocOf n c.oc with
    | some O => if O.all oct then atOI F n O 0 ni (fun l c => k (l, atOB F O 0 nb) c) c else .bad (.c true) c
    | none => .bad (.c true) c
  | ai => PeF.at0 F ai ab k c
theorem atOI_ok {chk : List (Option A) → List (Option B) → Pc → Bool} {F : Nat → Fl} {n : Nat} {O : List Int} {v : Int} (hv : v ∈ O) (ho : oct v = true) : ∀ {m j : Nat} {ρ : Env} {c : Pc}, StOk ρ c → WA ρ c (.v n) v →
    Does chk (atOI F n O j m) ρ c (fun ρ' c' l => ∀ i, WOA ρ' c' (l.getD i none) ((F v.toNat).1.getD (j + i) 0))
  | 0, j, ρ, c, hs, hn => fun k hk => ⟨ρ, c, [], Up.refl hs, fun i => WOA.none, hk⟩
  | m + 1, j, ρ, c, hs, hn => by
    intro k hk
    unfold atOI at hk
    split at hk
    · rename_i w hw
      obtain ⟨ρ', c', l, u, hp, h⟩ := atOI_ok hv ho (m := m) (j := j + 1) hs hn _ hk
      refine ⟨ρ', c', _, u, fun i => ?_, h⟩
      cases i with
      | zero =>
        have := allSame_ok hw _ (List.mem_map.2 ⟨v, hv, rfl⟩)
        exact WOA.some (by rw [Nat.add_zero, this]; exact WA.c)
      | succ i =>
        have := hp i
        rw [Nat.add_right_comm] at this
        exact this
    · have ho' := ho
      unfold oct at ho
      simp only [Bool.and_eq_true, decide_eq_true_eq] at ho
      have hr : ∀ ρ', Agree c.i c.b ρ ρ' → RI.d ρ' (.tab ((List.range 256).map fun v => (F v).1.getD j 0) (.v n)) = (F v.toNat).1.getD j 0 := fun ρ' ha => by
        simp only [RI.d]
        rw [hn ρ' ha]
        simp only [List.getD_eq_getElem?_getD, List.getElem?_map]
        rw [List.getElem?_range (by omega)]
        rfl
      obtain ⟨ρ1, c1, x, u1, h1, hk1⟩ := pI_ok hs hr _ hk
      obtain ⟨ρ', c', l, u, hp, h⟩ := atOI_ok hv ho' (m := m) (j := j + 1) u1.st (hn.up u1) _ hk1
      refine ⟨ρ', c', _, u1.trans u, fun i => ?_, h⟩
      cases i with
      | zero => exact WOA.some (h1.up u)
      | succ i =>
        have := hp i
        rw [Nat.add_right_comm] at this
        exact this
theorem atOB_ok {F : Nat → Fl} {O : List Int} {v : Int} (hv : v ∈ O) {ρ : Env} {c : Pc} : ∀ {m j i : Nat}, WOB ρ c ((atOB F O j m).getD i none) ((F v.toNat).2.getD (j + i) false)
  | 0, j, i => WOB.none
  | m + 1, j, 0 => by
    unfold atOB
    simp only [List.getD_cons_zero, Nat.add_zero]
    split
    · rename_i w hw
      have := allSameB_ok hw _ (List.mem_map.2 ⟨v, hv, rfl⟩)
      exact WOB.some (by rw [this]; exact WB.c)
    · exact WOB.none
  | m + 1, j, i + 1 => by
    have := atOB_ok hv (F := F) (ρ := ρ) (c := c) (m := m) (j := j + 1) (i := i)
    rw [Nat.add_right_comm] at this
    exact this
theorem PeF.atO_ok {F : Nat → Fl} {ni nb : Nat} : EOk (fun is _ => F (is.getD 0 0).toNat) (PeF.atO F ni nb) := by
  intro chk is bs ai ab ρ c hs h1 h2 hi hb k hk
  unfold PeF.atO at hk
  split at hk
  · rename_i n
    split at hk
    · rename_i O hO
      split at hk
      · rename_i hall
        have hn : WA ρ c (.v n) (is.getD 0 0) := hi 0 _ rfl
        have hm : is.getD 0 0 ∈ O := by
          rw [← hn ρ Agree.refl]
          exact (hs ρ Agree.refl).2.2.2.2 _ (ocOf_ok hO)
        obtain ⟨ρ', c', l, u, hp, h⟩ := atOI_ok hm (List.all_eq_true.1 hall _ hm) (m := ni) (j := 0) hs hn _ hk
        refine ⟨ρ', c', _, u, ⟨fun i => ?_, fun i => ?_⟩, h⟩
        · have := hp i
          rw [Nat.zero_add] at this
          exact this
        · have := atOB_ok (F := F) hm (ρ := ρ') (c := c') (m := nb) (j := 0) (i := i)
          rw [Nat.zero_add] at this
          exact this
      · cases hk
    · cases hk
  · exact PeF.at0_ok chk is bs ai ab ρ c hs h1 h2 hi hb k hk
/-! ### Run it -/
def peRun (p : PeF) (ai : List A) (ab : List B) (nI nB : Nat) (hy : List Em) (mk : List (Nat × Int)) (oc : List (Nat × List Int)) (dt : DT) : Rep := p (ai.map some) (ab.map some) (fun r c => .leaf r.1 r.2 c) { i := nI, b := nB, dt := dt, kn := [], out := [], hy := hy, ms := mk, oc := oc }
/-- What a check of all cases tells of the function. -/
theorem peRun_ok {F : Fun} {p : PeF} (h : EOk F p) {chk : List (Option A) → List (Option B) → Pc → Bool} {ai : List A} {ab : List B} {nI nB : Nat} {hy : List Em} {mk : List (Nat × Int)} {oc : List (Nat × List Int)} {dt : DT} (hk : (peRun p ai ab nI nB hy mk oc dt).ok chk = true) (ρ : Env) (is : List Int) (bs : List Bool)
    (hi : ∀ ρ', Agree nI nB ρ ρ' → ai.map (A.d ρ') = is) (hb : ∀ ρ', Agree nI nB ρ ρ' → ab.map (B.d ρ') = bs) (hh : ∀ ρ', Agree nI nB ρ ρ' → Good Fun0 ρ' hy ∧ MkOk ρ' mk ∧ OcOk ρ' oc) :
    ∃ ρ' ri rb c, Agree nI nB ρ ρ' ∧ Good Fun0 ρ' c.out ∧ KbOk ρ' c.kn ∧ (∀ j a, ri.getD j none = some a → a.d ρ' = (F is bs).1.getD j 0) ∧ (∀ j a, rb.getD j none = some a → a.d ρ' = (F is bs).2.getD j false) ∧ chk ri rb c = true := by
  have hst : StOk ρ { i := nI, b := nB, dt := dt, kn := [], out := [], hy := hy, ms := mk, oc := oc } := fun ρ' ha => ⟨Good.nil, (fun p hp => by cases hp), hh ρ' ha⟩
  have l1 : (ai.map some).length = is.length := by rw [← hi ρ Agree.refl]; simp
  have l2 : (ab.map some).length = bs.length := by rw [← hb ρ Agree.refl]; simp
  have w1 : WR ρ { i := nI, b := nB, dt := dt, kn := [], out := [], hy := hy, ms := mk, oc := oc } (ai.map some) is := fun j a ha ρ' hag => by
    rw [← hi ρ' hag]
    simp only [List.getD_eq_getElem?_getD, List.getElem?_map] at ha ⊢
    cases hq : ai[j]? with
    | none => rw [hq] at ha; simp at ha
    | some x => rw [hq] at ha; simp only [Option.map_some, Option.getD_some, Option.some.injEq] at ha ⊢; rw [ha]
  have w2 : WRB ρ { i := nI, b := nB, dt := dt, kn := [], out := [], hy := hy, ms := mk, oc := oc } (ab.map some) bs := fun j a ha ρ' hag => by
    rw [← hb ρ' hag]
    simp only [List.getD_eq_getElem?_getD, List.getElem?_map] at ha ⊢
    cases hq : ab[j]? with
    | none => rw [hq] at ha; simp at ha
    | some x => rw [hq] at ha; simp only [Option.map_some, Option.getD_some, Option.some.injEq] at ha ⊢; rw [ha]
  obtain ⟨ρ', c', r, u, ⟨h1, h2⟩, h3⟩ := h chk is bs (ai.map some) (ab.map some) ρ _ hst l1 l2 w1 w2 _ hk
  obtain ⟨h4, h5, _⟩ := u.st ρ' Agree.refl
  exact ⟨ρ', r.1, r.2, c', u.ag, h4, h5, fun j a ha => h1 j a ha ρ' Agree.refl, fun j a ha => h2 j a ha ρ' Agree.refl, h3⟩
/-! ### What a number is, of the first ones alone -/
inductive Ex where
  | iv (n : Nat)
  | ik (k : Int)
  | bv (n : Nat)
  | bk (k : Bool)
  | ar (op : BinOp) (k : IntKind) (a b : Ex)
  | cv (k : IntKind) (a : Ex)
  | ite (c a b : Ex)
  | mn (a b : Ex)
  | mx (a b : Ex)
  | tab (l : List Int) (a : Ex)
  | get (q a : Ex) (s k : Nat)
  | lenq (q : Ex) (s : Nat)
  | cm (op : BinOp) (a b : Ex)
  | not (a : Ex)
  | and (a b : Ex)
  | or (a b : Ex)
  | eqb (a b : Ex)
  | iteb (c a b : Ex)
  | getb (q a : Ex) (s k : Nat)
def Ex.d (ρ : Env) : Ex → Int × Bool
  | .iv n => (ρ.i n, false)
  | .ik k => (k, false)
  | .bv n => (0, ρ.b n)
  | .bk k => (0, k)
  | .ar op k a b => (arI op k (a.d ρ).1 (b.d ρ).1, false)
  | .cv k a => (k.wrap (a.d ρ).1, false)
  | .ite c a b => (if (c.d ρ).2 then (a.d ρ).1 else (b.d ρ).1, false)
  | .mn a b => (if (b.d ρ).1 < (a.d ρ).1 then (b.d ρ).1 else (a.d ρ).1, false)
  | .mx a b => (if (b.d ρ).1 > (a.d ρ).1 then (b.d ρ).1 else (a.d ρ).1, false)
  | .tab l a => (l.getD (a.d ρ).1.toNat 0, false)
  | .get q a s k => ((dec (q.d ρ).1).getD ((a.d ρ).1.toNat * s + k) 0, false)
  | .lenq q s => (((dec (q.d ρ).1).length / s : Nat), false)
  | .cm op a b => (0, cmB op (a.d ρ).1 (b.d ρ).1)
  | .not a => (0, !(a.d ρ).2)
  | .and a b => (0, (a.d ρ).2 && (b.d ρ).2)
  | .or a b => (0, (a.d ρ).2 || (b.d ρ).2)
  | .eqb a b => (0, (a.d ρ).2 == (b.d ρ).2)
  | .iteb c a b => (0, if (c.d ρ).2 then (a.d ρ).2 else (b.d ρ).2)
  | .getb q a s k => (0, (dec (q.d ρ).1).getD ((a.d ρ).1.toNat * s + k) 0 != 0)
/-- So deep it is written out. -/
def exOf (out : List Em) : Nat → (A ⊕ B) → Ex
  | 0, .inl (.v n) => .iv n
  | 0, .inl (.c k) => .ik k
  | 0, .inr (.v n) => .bv n
  | 0, .inr (.c k) => .bk k
  | f + 1, .inl (.c k) => .ik k
  | f + 1, .inr (.c k) => .bk k
  | f + 1, .inl (.v n) => match exFind out false n with
    | some (.inl r) => match r with
      | .ar op k a b => .ar op k (exOf out f (.inl a)) (exOf out f (.inl b))
      | .cv k a => .cv k (exOf out f (.inl a))
      | .ite c a b => .ite (exOf out f (.inr c)) (exOf out f (.inl a)) (exOf out f (.inl b))
      | .mn a b => .mn (exOf out f (.inl a)) (exOf out f (.inl b))
      | .mx a b => .mx (exOf out f (.inl a)) (exOf out f (.inl b))
      | .tab l a => .tab l (exOf out f (.inl a))
      | .get q a s k => .get (exOf out f (.inl q)) (exOf out f (.inl a)) s k
      | .lenq q s => .lenq (exOf out f (.inl q)) s
    | _ => .iv n
  | f + 1, .inr (.v n) => match exFind out true n with
    | some (.inr r) => match r with
      | .cm op a b => .cm op (exOf out f (.inl a)) (exOf out f (.inl b))
      | .not a => .not (exOf out f (.inr a))
      | .and a b => .and (exOf out f (.inr a)) (exOf out f (.inr b))
      | .or a b => .or (exOf out f (.inr a)) (exOf out f (.inr b))
      | .eqb a b => .eqb (exOf out f (.inr a)) (exOf out f (.inr b))
      | .ite c a b => .iteb (exOf out f (.inr c)) (exOf out f (.inr a)) (exOf out f (.inr b))
      | .getb q a s k => .getb (exOf out f (.inl q)) (exOf out f (.inl a)) s k
    | _ => .bv n
def exV (ρ : Env) : (A ⊕ B) → Ex → Prop
  | .inl a, e => (e.d ρ).1 = a.d ρ
  | .inr b, e => (e.d ρ).2 = b.d ρ
theorem exOf_ok {ρ : Env} {out : List Em} (hg : Good Fun0 ρ out) : ∀ (f : Nat) (x : A ⊕ B), exV ρ x (exOf out f x)
  | 0, .inl (.v n) => rfl
  | 0, .inl (.c k) => rfl
  | 0, .inr (.v n) => rfl
  | 0, .inr (.c k) => rfl
  | f + 1, .inl (.c k) => rfl
  | f + 1, .inr (.c k) => rfl
  | f + 1, .inl (.v n) => by
    have ih := exOf_ok hg f
    unfold exOf
    split
    · rename_i r hr
      have h1 := exFind_i hg hr
      show _ = ρ.i n
      rw [h1]
      split
      · rename_i op k a b; have h2 : _ = _ := ih (.inl a); have h3 : _ = _ := ih (.inl b); simp only [Ex.d, RI.d, h2, h3]
      · rename_i k a; have h2 : _ = _ := ih (.inl a); simp only [Ex.d, RI.d, h2]
      · rename_i g a b; have h2 : _ = _ := ih (.inl a); have h3 : _ = _ := ih (.inl b); have h4 : _ = _ := ih (.inr g); simp only [Ex.d, RI.d, h2, h3, h4]
      · rename_i a b; have h2 : _ = _ := ih (.inl a); have h3 : _ = _ := ih (.inl b); simp only [Ex.d, RI.d, h2, h3]
      · rename_i a b; have h2 : _ = _ := ih (.inl a); have h3 : _ = _ := ih (.inl b); simp only [Ex.d, RI.d, h2, h3]
      · rename_i l a; have h2 : _ = _ := ih (.inl a); simp only [Ex.d, RI.d, h2]
      · rename_i a b s k; have h2 : _ = _ := ih (.inl a); have h3 : _ = _ := ih (.inl b); simp only [Ex.d, RI.d, h2, h3]
      · rename_i a s; have h2 : _ = _ := ih (.inl a); simp only [Ex.d, RI.d, h2]
    · rfl
  | f + 1, .inr (.v n) => by
    have ih := exOf_ok hg f
    unfold exOf
    split
    · rename_i r hr
      have h1 := exFind_b hg hr
      show _ = ρ.b n
      rw [h1]
      split
      · rename_i op a b; have h2 : _ = _ := ih (.inl a); have h3 : _ = _ := ih (.inl b); simp only [Ex.d, RB.d, h2, h3]
      · rename_i a; have h2 : _ = _ := ih (.inr a); simp only [Ex.d, RB.d, h2]
      · rename_i a b; have h2 : _ = _ := ih (.inr a); have h3 : _ = _ := ih (.inr b); simp only [Ex.d, RB.d, h2, h3]
      · rename_i a b; have h2 : _ = _ := ih (.inr a); have h3 : _ = _ := ih (.inr b); simp only [Ex.d, RB.d, h2, h3]
      · rename_i a b; have h2 : _ = _ := ih (.inr a); have h3 : _ = _ := ih (.inr b); simp only [Ex.d, RB.d, h2, h3]
      · rename_i g a b; have h2 : _ = _ := ih (.inr a); have h3 : _ = _ := ih (.inr b); have h4 : _ = _ := ih (.inr g); simp only [Ex.d, RB.d, h2, h3, h4]
      · rename_i a b s k; have h2 : _ = _ := ih (.inl a); have h3 : _ = _ := ih (.inl b); simp only [Ex.d, RB.d, h2, h3]
    · rfl
def Ex.beq : Ex → Ex → Bool
  | .iv n, .iv m => Nat.beq n m
  | .ik k, .ik l => decide (k = l)
  | .bv n, .bv m => Nat.beq n m
  | .bk k, .bk l => k == l
  | .ar op k a b, .ar op' k' a' b' => op == op' && k == k' && a.beq a' && b.beq b'
  | .cv k a, .cv k' a' => k == k' && a.beq a'
  | .ite g a b, .ite g' a' b' => g.beq g' && a.beq a' && b.beq b'
  | .mn a b, .mn a' b' => a.beq a' && b.beq b'
  | .mx a b, .mx a' b' => a.beq a' && b.beq b'
  | .tab l a, .tab l' a' => decide (l = l') && a.beq a'
  | .get q a s k, .get q' a' s' k' => q.beq q' && a.beq a' && Nat.beq s s' && Nat.beq k k'
  | .lenq q s, .lenq q' s' => q.beq q' && Nat.beq s s'
  | .cm op a b, .cm op' a' b' => op == op' && a.beq a' && b.beq b'
  | .not a, .not a' => a.beq a'
  | .and a b, .and a' b' => a.beq a' && b.beq b'
  | .or a b, .or a' b' => a.beq a' && b.beq b'
  | .eqb a b, .eqb a' b' => a.beq a' && b.beq b'
  | .iteb g a b, .iteb g' a' b' => g.beq g' && a.beq a' && b.beq b'
  | .getb q a s k, .getb q' a' s' k' => q.beq q' && a.beq a' && Nat.beq s s' && Nat.beq k k'
  | _, _ => false
theorem Ex.beq_sound : ∀ {x y : Ex}, x.beq y = true → x = y := by
  intro x
  induction x <;> intro y h <;> cases y <;> simp only [Ex.beq, Bool.and_eq_true, Nat.beq_eq, decide_eq_true_eq, beq_iff_eq, Bool.false_eq_true] at h
  all_goals first
    | (subst h; rfl)
    | (rename_i ih1 ih2 _ _ _ _; obtain ⟨⟨⟨rfl, rfl⟩, h1⟩, h2⟩ := h; rw [ih1 h1, ih2 h2])
    | (rename_i ih1 ih2 _ _ _; obtain ⟨⟨rfl, h1⟩, h2⟩ := h; rw [ih1 h1, ih2 h2])
    | (rename_i ih1 ih2 ih3 _ _ _; obtain ⟨⟨h1, h2⟩, h3⟩ := h; rw [ih1 h1, ih2 h2, ih3 h3])
    | (rename_i ih1 ih2 _ _; obtain ⟨h1, h2⟩ := h; rw [ih1 h1, ih2 h2])
    | (rename_i ih1 _ _; obtain ⟨rfl, h1⟩ := h; rw [ih1 h1])
    | (rename_i ih1 _ _; obtain ⟨h1, rfl⟩ := h; rw [ih1 h1])
    | (rename_i ih1 _; rw [ih1 h])
    | (rename_i ih1 ih2 _ _ _ _; obtain ⟨⟨⟨h1, h2⟩, rfl⟩, rfl⟩ := h; rw [ih1 h1, ih2 h2])
end Go.Proofs.YtalnndmnnffnmaaGreat.Sx
/-! ## SxAr -/
set_option linter.unusedVariables false
set_option linter.unusedSimpArgs false
namespace Go.Proofs.YtalnndmnnffnmaaGreat.Sx
open Go

theorem nat_mask (n a b : Nat) : n &&& (2 ^ a * (2 ^ b - 1)) = 2 ^ a * (n / 2 ^ a % 2 ^ b) := by
  rw [← Nat.and_two_pow_sub_one_eq_mod]
  apply Nat.eq_of_testBit_eq
  intro i
  rw [Nat.testBit_and, Nat.testBit_two_pow_mul, Nat.testBit_two_pow_mul, Nat.testBit_and, Nat.testBit_div_two_pow]
  by_cases h : a ≤ i
  · simp only [h, decide_true, Bool.true_and, Nat.sub_add_cancel h]
  · simp [h]
theorem and16_nat (x c : Int) : arI .and .u16 x c = ((x % 65536).toNat &&& (c % 65536).toNat : Nat) := by
  show IntKind.wrap .u16 ↑(BitVec.ofInt 16 x &&& BitVec.ofInt 16 c).toNat = _
  rw [wrap_u16, BitVec.toNat_and]
  have h1 : ∀ y : Int, (BitVec.ofInt 16 y).toNat = (y % 65536).toNat := fun y => by simp [BitVec.toNat_ofInt]
  rw [h1, h1]
  have : (x % 65536).toNat &&& (c % 65536).toNat ≤ (x % 65536).toNat := Nat.and_le_left
  omega
theorem or16_nat (x c : Int) : arI .or .u16 x c = ((x % 65536).toNat ||| (c % 65536).toNat : Nat) := by
  show IntKind.wrap .u16 ↑(BitVec.ofInt 16 x ||| BitVec.ofInt 16 c).toNat = _
  rw [wrap_u16, BitVec.toNat_or]
  have h1 : ∀ y : Int, (BitVec.ofInt 16 y).toNat = (y % 65536).toNat := fun y => by simp [BitVec.toNat_ofInt]
  rw [h1, h1]
  have : (x % 65536).toNat ||| (c % 65536).toNat < 2 ^ 16 := Nat.or_lt_two_pow (by omega) (by omega)
  omega
theorem xor16_nat (x c : Int) : arI .xor .u16 x c = ((x % 65536).toNat ^^^ (c % 65536).toNat : Nat) := by
  show IntKind.wrap .u16 ↑(BitVec.ofInt 16 x ^^^ BitVec.ofInt 16 c).toNat = _
  rw [wrap_u16, BitVec.toNat_xor]
  have h1 : ∀ y : Int, (BitVec.ofInt 16 y).toNat = (y % 65536).toNat := fun y => by simp [BitVec.toNat_ofInt]
  rw [h1, h1]
  have : (x % 65536).toNat ^^^ (c % 65536).toNat < 2 ^ 16 := Nat.xor_lt_two_pow (by omega) (by omega)
  omega
theorem mask16 (x : Int) (a b c : Nat) (hc : c = 2 ^ a * (2 ^ b - 1)) (hl : c < 65536) : arI .and .u16 x (c : Nat) = 2 ^ a * (x % 65536 / 2 ^ a % 2 ^ b) := by
  rw [and16_nat, show ((c : Int) % 65536).toNat = c by omega, hc, nat_mask]
  have h1 : ((x % 65536).toNat : Int) = x % 65536 := Int.toNat_of_nonneg (by omega)
  rw [Int.natCast_mul, Int.natCast_emod, Int.natCast_ediv, h1]
  simp
theorem and16_255 (x : Int) : arI .and .u16 x 255 = x % 65536 % 256 := by
  have := mask16 x 0 8 255 (by decide) (by decide)
  simpa using this
theorem and16_1792 (x : Int) : arI .and .u16 x 1792 = 256 * (x % 65536 / 256 % 8) := by
  have := mask16 x 8 3 1792 (by decide) (by decide)
  simpa using this
theorem and16_1 (x : Int) : arI .and .u16 x 1 = x % 65536 % 2 := by
  have := mask16 x 0 1 1 (by decide) (by decide)
  simpa using this
theorem and16_3 (x : Int) : arI .and .u16 x 3 = x % 65536 % 4 := by
  have := mask16 x 0 2 3 (by decide) (by decide)
  simpa using this
/-- Bits that lie apart are joined by adding. -/
theorem or16_add (u v : Int) (a : Nat) (hu : 0 ≤ u) (hv : 0 ≤ v) (hva : v < 2 ^ a) (hl : 2 ^ a * u + v < 65536) : arI .or .u16 (2 ^ a * u) v = 2 ^ a * u + v := by
  have hp : (0 : Int) ≤ 2 ^ a * u := Int.mul_nonneg (Int.le_of_lt (Int.pow_pos (by decide))) hu
  obtain ⟨m, rfl⟩ := Int.eq_ofNat_of_zero_le hu
  obtain ⟨n, rfl⟩ := Int.eq_ofNat_of_zero_le hv
  rw [or16_nat]
  have e1 : (((2 : Int) ^ a * (m : Int)) % 65536).toNat = 2 ^ a * m := by
    rw [Int.emod_eq_of_lt hp (by omega)]
    have : ((2 : Int) ^ a * (m : Int)) = ((2 ^ a * m : Nat) : Int) := by simp
    rw [this, Int.toNat_natCast]
  have e2 : ((n : Int) % 65536).toNat = n := by omega
  rw [e1, e2]
  have hn : n < 2 ^ a := by
    have : ((n : Int)) < ((2 ^ a : Nat) : Int) := by simpa using hva
    exact Int.ofNat_lt.1 this
  rw [← Nat.two_pow_add_eq_or_of_lt hn]
  simp
theorem and8_7 (x : Int) : arI .and .u8 x 7 = x % 256 % 8 := by
  rw [and8]; exact of_decide_eq_true (u8_all (p := fun y => decide (arI .and .u8 y 7 = y % 8)) (by kernel_rfl) x)
theorem and8_31 (x : Int) : arI .and .u8 x 31 = x % 256 % 32 := by
  rw [and8]; exact of_decide_eq_true (u8_all (p := fun y => decide (arI .and .u8 y 31 = y % 32)) (by kernel_rfl) x)
theorem and8_32 (x : Int) : arI .and .u8 x 32 = 32 * (x % 256 / 32 % 2) := by
  rw [and8]; exact of_decide_eq_true (u8_all (p := fun y => decide (arI .and .u8 y 32 = 32 * (y / 32 % 2))) (by kernel_rfl) x)
theorem and8_16 (x : Int) : arI .and .u8 x 16 = 16 * (x % 256 / 16 % 2) := by
  rw [and8]; exact of_decide_eq_true (u8_all (p := fun y => decide (arI .and .u8 y 16 = 16 * (y / 16 % 2))) (by kernel_rfl) x)
theorem and8_8 (x : Int) : arI .and .u8 x 8 = 8 * (x % 256 / 8 % 2) := by
  rw [and8]; exact of_decide_eq_true (u8_all (p := fun y => decide (arI .and .u8 y 8 = 8 * (y / 8 % 2))) (by kernel_rfl) x)
theorem shrC (k : IntKind) (x : Int) (c n : Nat) (hn : n = 2 ^ min c k.bits) : arI .shr k x (c : Nat) = x / (n : Nat) := by
  show x.fdiv (2 ^ min (Int.toNat (c : Nat)) k.bits) = _
  rw [Int.toNat_natCast, hn, Int.fdiv_eq_ediv_of_nonneg _ (by exact Int.le_of_lt (Int.pow_pos (by decide)))]
  simp
theorem shr8_3 (x : Int) : arI .shr .u8 x 3 = x / 8 := shrC .u8 x 3 8 (by decide)
theorem shr8_4 (x : Int) : arI .shr .u8 x 4 = x / 16 := shrC .u8 x 4 16 (by decide)
theorem shr8_6 (x : Int) : arI .shr .u8 x 6 = x / 64 := shrC .u8 x 6 64 (by decide)
theorem shr16_1 (x : Int) : arI .shr .u16 x 1 = x / 2 := shrC .u16 x 1 2 (by decide)
theorem shr16_6 (x : Int) : arI .shr .u16 x 6 = x / 64 := shrC .u16 x 6 64 (by decide)
theorem shr16_8 (x : Int) : arI .shr .u16 x 8 = x / 256 := shrC .u16 x 8 256 (by decide)
theorem shr16_10 (x : Int) : arI .shr .u16 x 10 = x / 1024 := shrC .u16 x 10 1024 (by decide)
theorem shl16_8 (x : Int) : arI .shl .u16 x 8 = x * 256 % 65536 := by
  show IntKind.wrap .u16 (x * 2 ^ min (Int.toNat 8) 16) = _
  rw [wrap_u16, show ((2 : Int) ^ min (Int.toNat 8) 16) = 256 by decide]
theorem shl16_14 (x : Int) : arI .shl .u16 x 14 = x * 16384 % 65536 := by
  show IntKind.wrap .u16 (x * 2 ^ min (Int.toNat 14) 16) = _
  rw [wrap_u16, show ((2 : Int) ^ min (Int.toNat 14) 16) = 16384 by decide]
end Go.Proofs.YtalnndmnnffnmaaGreat.Sx
/-! ## SxZ -/
set_option linter.unusedVariables false
set_option linter.unusedSimpArgs false
namespace Go.Proofs.YtalnndmnnffnmaaGreat.Sx
open Go

theorem oneCell_ints {k : IntKind} {l : List Int} {j : Nat} {v : Value} (h : (l.map (Value.int k))[j]? = some v) : oneCell v = true := by
  rw [List.getElem?_map] at h
  cases hl : l[j]? with
  | none => rw [hl] at h; simp at h
  | some m => rw [hl] at h; simp only [Option.map_some, Option.some.injEq] at h; subst h; rfl

/-- A law's one answer, behind what it owes. -/
theorem out_trueP {s : Sum} {v : Value} {w' : World} (ht : s.tup = false) (hr : s.res = [(false, [.bool])]) (hp : s.pre = true) (hps : ptrShapes s.args = []) (h : OutOk s [] v w' ([], [true, true])) : v = .bool true := by
  obtain ⟨r, p, h1, h2, h3, h4⟩ := h
  unfold flatRes at h1
  rw [ht, hr] at h1
  rw [hps] at h2
  simp only [flatPs, Option.some.injEq] at h2
  subst h2
  rw [hp] at h4
  simp only [if_true, Bool.false_eq_true, if_false, List.append_nil, List.tail_cons] at h4 h1
  obtain ⟨us, hf, hu⟩ := flat1_inv h1
  simp only [Bool.false_eq_true, if_false] at hu hf
  subst hu
  unfold flatC at hf
  split at hf
  · rename_i b is bs hb
    simp only [Option.some.injEq] at hf
    subst hf
    simp only [flatC, Option.some.injEq, Prod.mk.injEq] at hb
    obtain ⟨_, rfl⟩ := hb
    simp only [List.cons.injEq, and_true] at h4
    rw [← h4]
  · cases hf
end Go.Proofs.YtalnndmnnffnmaaGreat.Sx
