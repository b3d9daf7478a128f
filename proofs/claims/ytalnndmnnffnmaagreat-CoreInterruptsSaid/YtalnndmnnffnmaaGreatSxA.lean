/-
  SX, part A: a symbolic executor over the model, its data: atoms, cells, values with guards, definitions, the writer that emits definitions and obligations. No condition.
-/
import Derived.Calls
import Derived.Control
import Derived.Orders
import Derived.LoopN
import Derived.Laws.Sem
import Derived.Laws.World
import Derived.Below
import Derived.KernelRfl
namespace Go.Proofs.YtalnndmnnffnmaaGreat.Sx
open Go

structure Env where
  i : Nat → Int
  b : Nat → Bool

inductive A where
  | v (n : Nat)
  | c (k : Int)

inductive B where
  | v (n : Nat)
  | c (k : Bool)

def A.d (ρ : Env) : A → Int
  | .v n => ρ.i n
  | .c k => k
def B.d (ρ : Env) : B → Bool
  | .v n => ρ.b n
  | .c k => k

@[simp] theorem A.d_c (ρ : Env) (k : Int) : (A.c k).d ρ = k := rfl
@[simp] theorem B.d_c (ρ : Env) (k : Bool) : (B.c k).d ρ = k := rfl
def A.eq : A → A → Bool
  | .v n, .v m => n == m
  | .c k, .c l => k == l
  | _, _ => false
def B.eq : B → B → Bool
  | .v n, .v m => n == m
  | .c k, .c l => k == l
  | _, _ => false
theorem A.eq_sound {a b : A} (h : a.eq b = true) : a = b := by
  cases a <;> cases b <;> simp_all [A.eq]
theorem B.eq_sound {a b : B} (h : a.eq b = true) : a = b := by
  cases a <;> cases b <;> simp_all [B.eq]

/-! ### Lists of numbers, as one number -/
def zig : Int → Nat
  | .ofNat n => 2 * n
  | .negSucc n => 2 * n + 1
def zag (n : Nat) : Int := if n % 2 = 0 then .ofNat (n / 2) else .negSucc (n / 2)
theorem zag_zig (i : Int) : zag (zig i) = i := by
  cases i with
  | ofNat n => show (if (2 * n) % 2 = 0 then Int.ofNat (2 * n / 2) else _) = _; rw [if_pos (by omega), show 2 * n / 2 = n by omega]
  | negSucc n => show (if (2 * n + 1) % 2 = 0 then _ else Int.negSucc ((2 * n + 1) / 2)) = _; rw [if_neg (by omega), show (2 * n + 1) / 2 = n by omega]
/-- How often two goes into it, and what is left. -/
def twos : Nat → Nat → Nat × Nat
  | 0, n => (0, n)
  | f + 1, n => if n % 2 = 0 then ((twos f (n / 2)).1 + 1, (twos f (n / 2)).2) else (0, n)
theorem twos_spec : ∀ (f a m : Nat), a < f → twos f (2 ^ a * (2 * m + 1)) = (a, 2 * m + 1)
  | 0, a, m, h => by omega
  | f + 1, 0, m, _ => by unfold twos; rw [if_neg (by omega)]; simp
  | f + 1, a + 1, m, h => by
    unfold twos
    have h1 : 2 ^ (a + 1) * (2 * m + 1) = 2 * (2 ^ a * (2 * m + 1)) := by rw [Nat.pow_succ]; ac_rfl
    rw [if_pos (by omega), show 2 ^ (a + 1) * (2 * m + 1) / 2 = 2 ^ a * (2 * m + 1) by omega, twos_spec f a m (by omega)]
def encN : List Int → Nat
  | [] => 0
  | i :: l => 2 ^ zig i * (2 * encN l + 1)
def decN : Nat → Nat → List Int
  | 0, _ => []
  | f + 1, n => if n = 0 then [] else zag (twos n n).1 :: decN f ((twos n n).2 / 2)
theorem decN_encN : ∀ (l : List Int) (f : Nat), encN l ≤ f → decN f (encN l) = l
  | [], f, _ => by cases f <;> simp [encN, decN]
  | i :: l, f, h => by
    have hp : 0 < 2 ^ zig i := Nat.pow_pos (by decide)
    have hlt : zig i < 2 ^ zig i := Nat.lt_two_pow_self
    have hmul : 2 ^ zig i * 1 ≤ 2 ^ zig i * (2 * encN l + 1) := Nat.mul_le_mul_left _ (by omega)
    have hmul2 : 1 * (2 * encN l + 1) ≤ 2 ^ zig i * (2 * encN l + 1) := Nat.mul_le_mul_right _ hp
    cases f with
    | zero => unfold encN at h; omega
    | succ f =>
      unfold decN
      unfold encN at h ⊢
      rw [if_neg (by omega), twos_spec _ _ _ (by omega)]
      simp only
      rw [zag_zig, show (2 * encN l + 1) / 2 = encN l by omega, decN_encN l f (by omega)]
def enc (l : List Int) : Int := encN l
def dec (i : Int) : List Int := decN i.toNat i.toNat
theorem dec_enc (l : List Int) : dec (enc l) = l := by
  unfold dec enc
  rw [Int.toNat_natCast]
  exact decN_encN l _ (Nat.le_refl _)

/-- A cell's kind: a number, a bool, an address within what the k-th address argument points to, a string. -/
inductive CK where
  | int (k : IntKind)
  | bool
  | pt (k o : Nat)
  | str

/-- A list of conditions: all of them hold. -/
abbrev Gd := List (B × Bool)
def Gd.d (ρ : Env) (g : Gd) : Bool := g.all fun p => p.1.d ρ == p.2
@[simp] theorem Gd.d_nil (ρ : Env) : Gd.d ρ [] = true := rfl
@[simp] theorem Gd.d_cons (ρ : Env) (p : B × Bool) (g : Gd) : Gd.d ρ (p :: g) = (p.1.d ρ == p.2 && Gd.d ρ g) := rfl
@[simp] theorem Gd.d_append (ρ : Env) (g h : Gd) : Gd.d ρ (g ++ h) = (Gd.d ρ g && Gd.d ρ h) := by
  unfold Gd.d; simp
def Gd.mem (p : B × Bool) (g : Gd) : Bool := g.any fun q => p.1.eq q.1 && p.2 == q.2
def Gd.sub (g h : Gd) : Bool := g.all fun p => Gd.mem p h
theorem Gd.mem_d {ρ : Env} {p : B × Bool} {g : Gd} (h : Gd.mem p g = true) (hg : Gd.d ρ g = true) : p.1.d ρ = p.2 := by
  unfold Gd.mem at h
  simp only [List.any_eq_true, Bool.and_eq_true, beq_iff_eq] at h
  obtain ⟨q, hq, he, h2⟩ := h
  unfold Gd.d at hg
  simp only [List.all_eq_true, beq_iff_eq] at hg
  rw [B.eq_sound he, h2]
  exact hg q hq
theorem Gd.sub_d {ρ : Env} {g h : Gd} (hs : Gd.sub g h = true) (hh : Gd.d ρ h = true) : Gd.d ρ g = true := by
  unfold Gd.sub at hs
  simp only [List.all_eq_true] at hs
  unfold Gd.d
  simp only [List.all_eq_true, beq_iff_eq]
  exact fun p hp => Gd.mem_d (hs p hp) hh

/-- A function's value: none, or a function with the addresses that it captured. -/
abbrev FV := Option (Nat × List (Nat × Nat))
/-- A string, as one number. -/
def bytesI (s : ByteArray) : List Int := s.data.toList.map fun b => (b.toNat : Int)
def encS (s : ByteArray) : Int := enc (bytesI s)
theorem encS_inj {s t : ByteArray} (h : encS s = encS t) : s = t := by
  have h1 : bytesI s = bytesI t := by rw [← dec_enc (bytesI s), ← dec_enc (bytesI t)]; exact congrArg dec h
  have h2 : s.data.toList = t.data.toList := by
    refine List.map_inj_right (f := fun b : UInt8 => (b.toNat : Int)) (fun x y hxy => ?_) |>.1 h1
    exact UInt8.toNat_inj.1 (by exact_mod_cast hxy)
  cases s; cases t; congr 1; exact Array.toList_inj.1 h2

/-- One cell: a number in its kind, a bool, an address (alternatives under conditions, then one without), an address by a number, a slice of a stretch, a known value, anything. -/
inductive C where
  | int (k : IntKind) (a : A)
  | bool (b : B)
  | ptr (l : List (B × Nat × Nat)) (id off : Nat)
  | pix (id off s len : Nat) (a : A) (k : Nat)
  | sli (id off len cap : Nat)
  | slx (id : Nat) (ks : List CK) (q len : A)
  | pxq (id : Nat) (ks : List CK) (q a : A) (k : Nat)
  | val (v : Value)
  | junk
  | str (q : A)
  | fn (l : List (B × FV)) (d : FV)
  | mp (id : Nat)

/-- A value: one cell, or an aggregate's cells; or a tuple of these. -/
inductive S where
  | one (agg : Bool) (l : List C)
  | tup (l : List (Bool × List C))
  | any

/-- A slot's content: if the conditions hold, such a value; else nothing was written. -/
structure SV where
  g : Gd
  s : S

def anySV : SV := { g := [], s := .any }

/-- A stretch of cells that is known. -/
structure Blk where
  g : Gd
  ro : Bool
  cells : List C

/-- Where a stretch lies. -/
structure Rg where
  blk : Nat
  off : Nat
  len : Nat
  ro : Bool
  sq : Option (List CK × List Int) := none

abbrev Beta := Nat → Option Rg

def InR (k : IntKind) (n : Int) : Prop := k.min ≤ n ∧ n ≤ k.max

/-- Which alternative it is. -/
def pick (ρ : Env) : List (B × Nat × Nat) → Nat → Nat → Nat × Nat
  | [], id, off => (id, off)
  | (b, i, o) :: l, id, off => if b.d ρ then (i, o) else pick ρ l id off

def pickF (ρ : Env) : List (B × FV) → FV → FV
  | [], d => d
  | (b, f) :: l, d => if b.d ρ then f else pickF ρ l d
/-- The addresses that were captured. -/
def capMt (β : Beta) : List (Nat × Nat) → List Value → Prop
  | [], [] => True
  | p :: l, v :: vs => (∃ r, β p.1 = some r ∧ v = .pointer (some ⟨r.blk, r.off + p.2, none⟩)) ∧ capMt β l vs
  | _, _ => False
def fvMt (β : Beta) (f : FV) (v : Value) : Prop :=
  match f with
  | none => v = .nilFunc
  | some p => ∃ vs : List Value, v = .func (.func p.1) #[] vs.toArray ∧ capMt β p.2 vs

def oneCell : Value → Bool
  | .agg _ | .tuple _ => false
  | _ => true

def C.mt (β : Beta) (ρ : Env) : C → Value → Prop
  | .int k a, v => v = .int k (a.d ρ) ∧ InR k (a.d ρ)
  | .bool b, v => v = .bool (b.d ρ)
  | .ptr l id off, v => ∃ r, β (pick ρ l id off).1 = some r ∧ v = .pointer (some ⟨r.blk, r.off + (pick ρ l id off).2, none⟩)
  | .pix id off s len a k, v => 0 ≤ a.d ρ ∧ a.d ρ < len ∧ ∃ r, β id = some r ∧ v = .pointer (some ⟨r.blk, r.off + (off + (a.d ρ).toNat * s + k), none⟩)
  | .sli id off len cap, v => ∃ r, β id = some r ∧ v = .slice (some ⟨r.blk, r.off + off, none⟩) len cap
  | .slx id ks q len, v => 0 ≤ len.d ρ ∧ InR .i64 (len.d ρ) ∧ ((q.d ρ = enc [] ∧ len.d ρ = 0 ∧ ∃ p cap, v = .slice p 0 cap) ∨
      ∃ r cap l, β id = some r ∧ r.sq = some (ks, l) ∧ q.d ρ = enc l ∧ 0 < len.d ρ ∧ l.length = (len.d ρ).toNat * ks.length ∧ v = .slice (some ⟨r.blk, r.off, none⟩) (len.d ρ).toNat cap)
  | .pxq id ks q a k, v => 0 ≤ a.d ρ ∧ ∃ r l, β id = some r ∧ r.sq = some (ks, l) ∧ q.d ρ = enc l ∧ ((a.d ρ).toNat + 1) * ks.length ≤ l.length ∧
      v = .pointer (some ⟨r.blk, r.off + ((a.d ρ).toNat * ks.length + k), none⟩)
  | .val u, v => v = u ∧ oneCell u = true
  | .junk, v => oneCell v = true
  | .str q, v => ∃ s : ByteArray, v = .string s ∧ q.d ρ = encS s ∧ InR .i64 s.size
  | .fn l d, v => fvMt β (pickF ρ l d) v
  | .mp id, v => ∃ r, β id = some r ∧ v = .map (some r.blk)

def mtL (β : Beta) (ρ : Env) : List C → List Value → Prop
  | [], [] => True
  | c :: cs, v :: vs => c.mt β ρ v ∧ mtL β ρ cs vs
  | _, _ => False

def mt1 (β : Beta) (ρ : Env) (agg : Bool) (l : List C) (v : Value) : Prop :=
  if agg then ∃ vs, v = .agg vs ∧ mtL β ρ l vs.toList else ∃ c, l = [c] ∧ c.mt β ρ v

def mtT (β : Beta) (ρ : Env) : List (Bool × List C) → List Value → Prop
  | [], [] => True
  | p :: ps, v :: vs => mt1 β ρ p.1 p.2 v ∧ mtT β ρ ps vs
  | _, _ => False

def S.mt (β : Beta) (ρ : Env) : S → Value → Prop
  | .one agg l, v => mt1 β ρ agg l v
  | .tup l, v => ∃ vs, v = .tuple vs ∧ mtT β ρ l vs.toList
  | .any, _ => True

/-- What may stand in a slot. Where nothing is known: anything. -/
def SV.mt (β : Beta) (ρ : Env) (x : SV) (v : Value) : Prop :=
  (Gd.d ρ x.g = true → x.s.mt β ρ v) ∧ (Gd.d ρ x.g = false → v = undef)

/-! ### Definitions -/
def arI (op : BinOp) (k : IntKind) (x y : Int) : Int :=
  match op with
  | .add => k.wrap (x + y)
  | .sub => k.wrap (x - y)
  | .mul => k.wrap (x * y)
  | .quo => k.wrap (x.tdiv y)
  | .rem => x.tmod y
  | .and => k.wrap (BitVec.ofInt k.bits x &&& BitVec.ofInt k.bits y).toNat
  | .or => k.wrap (BitVec.ofInt k.bits x ||| BitVec.ofInt k.bits y).toNat
  | .xor => k.wrap (BitVec.ofInt k.bits x ^^^ BitVec.ofInt k.bits y).toNat
  | .andNot => k.wrap (BitVec.ofInt k.bits x &&& ~~~ BitVec.ofInt k.bits y).toNat
  | .shl => k.wrap (x * 2 ^ (min y.toNat k.bits))
  | .shr => x.fdiv (2 ^ (min y.toNat k.bits))
  | _ => 0
def cmB (op : BinOp) (x y : Int) : Bool :=
  match op with
  | .eql => x == y
  | .neq => x != y
  | .lss => decide (x < y)
  | .leq => decide (x ≤ y)
  | .gtr => decide (x > y)
  | .geq => decide (x ≥ y)
  | _ => false

inductive RI where
  | ar (op : BinOp) (k : IntKind) (a b : A)
  | cv (k : IntKind) (a : A)
  | ite (c : B) (a b : A)
  | mn (a b : A)
  | mx (a b : A)
  | tab (l : List Int) (a : A)
  | get (q a : A) (s k : Nat)
  | lenq (q : A) (s : Nat)
def RI.d (ρ : Env) : RI → Int
  | .ar op k a b => arI op k (a.d ρ) (b.d ρ)
  | .cv k a => k.wrap (a.d ρ)
  | .ite c a b => if c.d ρ then a.d ρ else b.d ρ
  | .mn a b => if b.d ρ < a.d ρ then b.d ρ else a.d ρ
  | .mx a b => if b.d ρ > a.d ρ then b.d ρ else a.d ρ
  | .tab l a => l.getD (a.d ρ).toNat 0
  | .get q a s k => (dec (q.d ρ)).getD ((a.d ρ).toNat * s + k) 0
  | .lenq q s => ((dec (q.d ρ)).length / s : Nat)

inductive RB where
  | cm (op : BinOp) (a b : A)
  | not (a : B)
  | and (a b : B)
  | or (a b : B)
  | eqb (a b : B)
  | ite (c a b : B)
  | getb (q a : A) (s k : Nat)
def RB.d (ρ : Env) : RB → Bool
  | .cm op a b => cmB op (a.d ρ) (b.d ρ)
  | .not a => !(a.d ρ)
  | .and a b => a.d ρ && b.d ρ
  | .or a b => a.d ρ || b.d ρ
  | .eqb a b => a.d ρ == b.d ρ
  | .ite c a b => if c.d ρ then a.d ρ else b.d ρ
  | .getb q a s k => (dec (q.d ρ)).getD ((a.d ρ).toNat * s + k) 0 != 0

/-- What functions answer: numbers and bools in, numbers and bools out. -/
abbrev Fun := List Int → List Bool → List Int × List Bool
abbrev Funs := Nat → Fun

/-- What is emitted: a number's definition, a bool's, a call's answers, an obligation. -/
inductive Em where
  | di (n : Nat) (r : RI)
  | db (n : Nat) (r : RB)
  | call (f : Nat) (ai : List A) (ab : List B) (i0 ni b0 nb : Nat)
  | ob (g : Gd) (b : B)

def Em.ok (Φ : Funs) (ρ : Env) : Em → Prop
  | .di n r => ρ.i n = r.d ρ
  | .db n r => ρ.b n = r.d ρ
  | .call f ai ab i0 ni b0 nb =>
    (∀ j, j < ni → ρ.i (i0 + j) = (Φ f (ai.map (A.d ρ)) (ab.map (B.d ρ))).1.getD j 0) ∧
    (∀ j, j < nb → ρ.b (b0 + j) = (Φ f (ai.map (A.d ρ)) (ab.map (B.d ρ))).2.getD j false)
  | .ob g b => Gd.d ρ g = true → b.d ρ = true

def Good (Φ : Funs) (ρ : Env) (l : List Em) : Prop := ∀ e, e ∈ l → e.ok Φ ρ
theorem Good.nil {Φ : Funs} {ρ : Env} : Good Φ ρ [] := fun _ h => by cases h
theorem Good.append {Φ : Funs} {ρ : Env} {l m : List Em} : Good Φ ρ (l ++ m) ↔ Good Φ ρ l ∧ Good Φ ρ m := by
  constructor
  · exact fun h => ⟨fun e he => h e (List.mem_append.2 (.inl he)), fun e he => h e (List.mem_append.2 (.inr he))⟩
  · rintro ⟨h1, h2⟩ e he
    rcases List.mem_append.1 he with h | h
    · exact h1 e h
    · exact h2 e h
theorem Good.cons {Φ : Funs} {ρ : Env} {e : Em} {m : List Em} : Good Φ ρ (e :: m) ↔ e.ok Φ ρ ∧ Good Φ ρ m := by
  constructor
  · exact fun h => ⟨h e (List.mem_cons.2 (.inl rfl)), fun x hx => h x (List.mem_cons.2 (.inr hx))⟩
  · rintro ⟨h1, h2⟩ x hx
    rcases List.mem_cons.1 hx with h | h
    · exact h ▸ h1
    · exact h2 x h

/-- The next numbers: of numbers, of bools, of stretches. -/
structure Ctr where
  i : Nat
  b : Nat
  id : Nat

def M (α : Type) : Type := Ctr → Option (α × Ctr × List Em)
namespace M
def pure {α : Type} (x : α) : M α := fun c => some (x, c, [])
def bind {α β : Type} (m : M α) (f : α → M β) : M β := fun c =>
  match m c with
  | none => none
  | some (x, c1, o1) => match f x c1 with
    | none => none
    | some (y, c2, o2) => some (y, c2, o1 ++ o2)
def fail {α : Type} : M α := fun _ => none
instance : Monad M where
  pure := M.pure
  bind := M.bind
/-- What is emitted, under conditions. -/
def emG (g : Gd) : Em → Em
  | .ob h b => .ob (g ++ h) b
  | e => e
def under {α : Type} (g : Gd) (m : M α) : M α := fun c =>
  match m c with
  | none => none
  | some (x, c1, o1) => some (x, c1, o1.map (emG g))
end M

/-- What an answer of the writer is worth: if what was emitted holds, then this. (What it says of stretches' numbers besides.) -/
def Snd {α : Type} (Φ : Funs) (ρ : Env) (m : M α) (p : α → Prop) : Prop :=
  ∀ c x c' o, m c = some (x, c', o) → Good Φ ρ o → p x
section
variable {α β : Type} {Φ : Funs} {ρ : Env}
theorem Snd.pure {x : α} {p : α → Prop} (h : p x) : Snd Φ ρ (Pure.pure x : M α) p := by
  intro c y c' o he _
  simp only [Pure.pure, M.pure, Option.some.injEq, Prod.mk.injEq] at he
  exact he.1 ▸ h
theorem Snd.bind {m : M α} {f : α → M β} {p : α → Prop} {q : β → Prop} (hm : Snd Φ ρ m p) (hf : ∀ x, p x → Snd Φ ρ (f x) q) : Snd Φ ρ (m >>= f) q := by
  intro c y c' o he hg
  simp only [Bind.bind, M.bind] at he
  cases h1 : m c with
  | none => rw [h1] at he; cases he
  | some r =>
    obtain ⟨x, c1, o1⟩ := r
    rw [h1] at he
    simp only at he
    cases h2 : f x c1 with
    | none => rw [h2] at he; cases he
    | some r2 =>
      obtain ⟨z, c2, o2⟩ := r2
      rw [h2] at he
      simp only [Option.some.injEq, Prod.mk.injEq] at he
      obtain ⟨rfl, rfl, rfl⟩ := he
      rw [Good.append] at hg
      exact hf x (hm _ _ _ _ h1 hg.1) _ _ _ _ h2 hg.2
theorem Snd.fail {p : α → Prop} : Snd Φ ρ (M.fail : M α) p := fun _ _ _ _ he => by cases he
theorem Snd.mono {m : M α} {p q : α → Prop} (h : Snd Φ ρ m p) (hpq : ∀ x, p x → q x) : Snd Φ ρ m q :=
  fun c x c' o he hg => hpq x (h c x c' o he hg)
theorem Snd.and {m : M α} {p q : α → Prop} (h : Snd Φ ρ m p) (h' : Snd Φ ρ m q) : Snd Φ ρ m (fun x => p x ∧ q x) :=
  fun c x c' o he hg => ⟨h c x c' o he hg, h' c x c' o he hg⟩
theorem Snd.triv {m : M α} : Snd Φ ρ m (fun _ => True) := fun _ _ _ _ _ _ => trivial
theorem Good.under {g : Gd} {l : List Em} (hg : Gd.d ρ g = true) (h : Good Φ ρ (l.map (M.emG g))) : Good Φ ρ l := by
  intro e he
  have := h _ (List.mem_map.2 ⟨e, he, rfl⟩)
  cases e <;> try exact this
  case ob g' b =>
    intro hg'
    exact this (by simp [hg, hg'])
theorem Snd.under {g : Gd} {m : M α} {p : α → Prop} (hg : Gd.d ρ g = true) (h : Snd Φ ρ m p) : Snd Φ ρ (M.under g m) p := by
  intro c x c' o he hgd
  simp only [M.under] at he
  cases h1 : m c with
  | none => rw [h1] at he; cases he
  | some r =>
    obtain ⟨y, c1, o1⟩ := r
    rw [h1] at he
    simp only [Option.some.injEq, Prod.mk.injEq] at he
    obtain ⟨rfl, rfl, rfl⟩ := he
    exact h _ _ _ _ h1 (Good.under hg hgd)
end

/-! ### Emitting -/
def newI (r : RI) : M A := fun c => some (.v c.i, { c with i := c.i + 1 }, [.di c.i r])
def newB (r : RB) : M B := fun c => some (.v c.b, { c with b := c.b + 1 }, [.db c.b r])
def newId : M Nat := fun c => some (c.id, { c with id := c.id + 1 }, [])
def oblige (b : B) : M Unit := fun c =>
  match b with
  | .c true => some ((), c, [])
  | b => some ((), c, [.ob [] b])
section
variable {Φ : Funs} {ρ : Env}
theorem newI_snd (r : RI) : Snd Φ ρ (newI r) (fun a => a.d ρ = r.d ρ) := by
  intro c x c' o he hg
  simp only [newI, Option.some.injEq, Prod.mk.injEq] at he
  obtain ⟨rfl, rfl, rfl⟩ := he
  exact hg (.di c.i r) (by simp)
theorem newB_snd (r : RB) : Snd Φ ρ (newB r) (fun a => a.d ρ = r.d ρ) := by
  intro c x c' o he hg
  simp only [newB, Option.some.injEq, Prod.mk.injEq] at he
  obtain ⟨rfl, rfl, rfl⟩ := he
  exact hg (.db c.b r) (by simp)
theorem oblige_snd (b : B) : Snd Φ ρ (oblige b) (fun _ => b.d ρ = true) := by
  intro c x c' o he hg
  unfold oblige at he
  split at he
  · rfl
  · simp only [Option.some.injEq, Prod.mk.injEq] at he
    obtain ⟨-, -, rfl⟩ := he
    exact hg (.ob [] b) (by simp) rfl
end

/-! ### With what is known folded -/
def mkAr (op : BinOp) (k : IntKind) (a b : A) : M A :=
  match a, b with
  | .c x, .c y => pure (.c (arI op k x y))
  | a, b => newI (.ar op k a b)
def mkCv (k : IntKind) (a : A) : M A :=
  match a with
  | .c x => pure (.c (k.wrap x))
  | a => newI (.cv k a)
def mkIteI (c : B) (a b : A) : M A :=
  match c with
  | .c true => pure a
  | .c false => pure b
  | c => if a.eq b then pure a else newI (.ite c a b)
def mkMn (a b : A) : M A :=
  match a, b with
  | .c x, .c y => pure (.c (if y < x then y else x))
  | a, b => newI (.mn a b)
def mkMx (a b : A) : M A :=
  match a, b with
  | .c x, .c y => pure (.c (if y > x then y else x))
  | a, b => newI (.mx a b)
def mkCm (op : BinOp) (a b : A) : M B :=
  match a, b with
  | .c x, .c y => pure (.c (cmB op x y))
  | a, b => newB (.cm op a b)
def mkNot (a : B) : M B :=
  match a with
  | .c x => pure (.c (!x))
  | a => newB (.not a)
def mkAnd (a b : B) : M B :=
  match a, b with
  | .c true, b => pure b
  | .c false, _ => pure (.c false)
  | a, .c true => pure a
  | _, .c false => pure (.c false)
  | a, b => newB (.and a b)
def mkOr (a b : B) : M B :=
  match a, b with
  | .c false, b => pure b
  | .c true, _ => pure (.c true)
  | a, .c false => pure a
  | _, .c true => pure (.c true)
  | a, b => newB (.or a b)
def mkEqb (a b : B) : M B :=
  match a, b with
  | .c true, b => pure b
  | a, .c true => pure a
  | .c x, .c y => pure (.c (x == y))
  | a, b => newB (.eqb a b)
def mkIteB (c a b : B) : M B :=
  match c with
  | .c true => pure a
  | .c false => pure b
  | c => if a.eq b then pure a else match a, b with
    | .c true, .c false => pure c
    | .c true, b => newB (.or c b)
    | a, .c false => newB (.and c a)
    | a, b => newB (.ite c a b)
section
variable {Φ : Funs} {ρ : Env}
theorem mkAr_snd (op : BinOp) (k : IntKind) (a b : A) : Snd Φ ρ (mkAr op k a b) (fun x => x.d ρ = arI op k (a.d ρ) (b.d ρ)) := by
  unfold mkAr
  split
  · exact Snd.pure rfl
  · exact newI_snd _
theorem mkCv_snd (k : IntKind) (a : A) : Snd Φ ρ (mkCv k a) (fun x => x.d ρ = k.wrap (a.d ρ)) := by
  unfold mkCv
  split
  · exact Snd.pure rfl
  · exact newI_snd _
theorem mkIteI_snd (c : B) (a b : A) : Snd Φ ρ (mkIteI c a b) (fun x => x.d ρ = if c.d ρ then a.d ρ else b.d ρ) := by
  unfold mkIteI
  split
  · exact Snd.pure (by simp [B.d])
  · exact Snd.pure (by simp [B.d])
  · split
    · rename_i h
      rw [A.eq_sound h]
      exact Snd.pure (by simp)
    · exact newI_snd _
theorem mkMn_snd (a b : A) : Snd Φ ρ (mkMn a b) (fun x => x.d ρ = if b.d ρ < a.d ρ then b.d ρ else a.d ρ) := by
  unfold mkMn
  split
  · exact Snd.pure rfl
  · exact newI_snd _
theorem mkMx_snd (a b : A) : Snd Φ ρ (mkMx a b) (fun x => x.d ρ = if b.d ρ > a.d ρ then b.d ρ else a.d ρ) := by
  unfold mkMx
  split
  · exact Snd.pure rfl
  · exact newI_snd _
theorem mkCm_snd (op : BinOp) (a b : A) : Snd Φ ρ (mkCm op a b) (fun x => x.d ρ = cmB op (a.d ρ) (b.d ρ)) := by
  unfold mkCm
  split
  · exact Snd.pure rfl
  · exact newB_snd _
theorem mkNot_snd (a : B) : Snd Φ ρ (mkNot a) (fun x => x.d ρ = !(a.d ρ)) := by
  unfold mkNot
  split
  · exact Snd.pure rfl
  · exact newB_snd _
theorem mkAnd_snd (a b : B) : Snd Φ ρ (mkAnd a b) (fun x => x.d ρ = (a.d ρ && b.d ρ)) := by
  unfold mkAnd
  split
  · exact Snd.pure (by simp [B.d])
  · exact Snd.pure (by simp [B.d])
  · exact Snd.pure (by simp [B.d])
  · exact Snd.pure (by simp [B.d])
  · exact newB_snd _
theorem mkOr_snd (a b : B) : Snd Φ ρ (mkOr a b) (fun x => x.d ρ = (a.d ρ || b.d ρ)) := by
  unfold mkOr
  split
  · exact Snd.pure (by simp [B.d])
  · exact Snd.pure (by simp [B.d])
  · exact Snd.pure (by simp [B.d])
  · exact Snd.pure (by simp [B.d])
  · exact newB_snd _
theorem mkEqb_snd (a b : B) : Snd Φ ρ (mkEqb a b) (fun x => x.d ρ = (a.d ρ == b.d ρ)) := by
  unfold mkEqb
  split
  · exact Snd.pure (by simp [B.d])
  · exact Snd.pure (by simp [B.d])
  · exact Snd.pure (by simp [B.d])
  · exact newB_snd _
theorem mkIteB_snd (c a b : B) : Snd Φ ρ (mkIteB c a b) (fun x => x.d ρ = if c.d ρ then a.d ρ else b.d ρ) := by
  unfold mkIteB
  split
  · exact Snd.pure (by simp [B.d])
  · exact Snd.pure (by simp [B.d])
  · split
    · rename_i h
      rw [B.eq_sound h]
      exact Snd.pure (by simp)
    · split
      · exact Snd.pure (by show c.d ρ = if c.d ρ then true else false; simp)
      · exact (newB_snd _).mono fun x hx => by rw [hx]; simp [RB.d]
      · exact (newB_snd _).mono fun x hx => by rw [hx]; simp [RB.d]
      · exact newB_snd _
end
end Go.Proofs.YtalnndmnnffnmaaGreat.Sx
