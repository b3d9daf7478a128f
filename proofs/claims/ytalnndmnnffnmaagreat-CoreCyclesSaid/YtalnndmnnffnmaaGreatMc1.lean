/-
  Merged texts (SxA, SxB, SxC, SxD, SxE, SxF, SxG, SxH, SxI, SxJ, SxK). No condition.
-/
import Derived.Calls
import Derived.Control
import Derived.Orders
import Derived.LoopN
import Derived.Laws.Sem
import Derived.Laws.World
import Derived.Below
import Derived.KernelRfl
import Derived.Laws.Cells
import Derived.Laws.StructEq
/-! ## SxA -/
namespace Go.Proofs.YtalnndmnnffnmaaGreat.Sx
open Go

structure Env where
  i : Nat → Int
  b : Nat → Bool

inductive A where
  | v (n : Nat)
  | c (k : Int)

inductive B where
  | v (n : Nat)
  | c (k : Bool)

def A.d (ρ : Env) : A → Int
  | .v n => ρ.i n
  | .c k => k
def B.d (ρ : Env) : B → Bool
  | .v n => ρ.b n
  | .c k => k

@[simp] theorem A.d_c (ρ : Env) (k : Int) : (A.c k).d ρ = k := rfl
@[simp] theorem B.d_c (ρ : Env) (k : Bool) : (B.c k).d ρ = k := rfl
def A.eq : A → A → Bool
  | .v n, .v m => n == m
  | .c k, .c l => k == l
  | _, _ => false
def B.eq : B → B → Bool
  | .v n, .v m => n == m
  | .c k, .c l => k == l
  | _, _ => false
theorem A.eq_sound {a b : A} (h : a.eq b = true) : a = b := by
  cases a <;> cases b <;> simp_all [A.eq]
theorem B.eq_sound {a b : B} (h : a.eq b = true) : a = b := by
  cases a <;> cases b <;> simp_all [B.eq]

/-! ### Lists of numbers, as one number -/
def zig : Int → Nat
  | .ofNat n => 2 * n
  | .negSucc n => 2 * n + 1
def zag (n : Nat) : Int := if n % 2 = 0 then .ofNat (n / 2) else .negSucc (n / 2)
theorem zag_zig (i : Int) : zag (zig i) = i := by
  cases i with
  | ofNat n => show (if (2 * n) % 2 = 0 then Int.ofNat (2 * n / 2) else _) = _; rw [if_pos (by omega), show 2 * n / 2 = n by omega]
  | negSucc n => show (if (2 * n + 1) % 2 = 0 then _ else Int.negSucc ((2 * n + 1) / 2)) = _; rw [if_neg (by omega), show (2 * n + 1) / 2 = n by omega]
/-- How often two goes into it, and what is left. -/
def twos : Nat → Nat → Nat × Nat
  | 0, n => (0, n)
  | f + 1, n => if n % 2 = 0 then ((twos f (n / 2)).1 + 1, (twos f (n / 2)).2) else (0, n)
theorem twos_spec : ∀ (f a m : Nat), a < f → twos f (2 ^ a * (2 * m + 1)) = (a, 2 * m + 1)
  | 0, a, m, h => by omega
  | f + 1, 0, m, _ => by unfold twos; rw [if_neg (by omega)]; simp
  | f + 1, a + 1, m, h => by
    unfold twos
    have h1 : 2 ^ (a + 1) * (2 * m + 1) = 2 * (2 ^ a * (2 * m + 1)) := by rw [Nat.pow_succ]; ac_rfl
    rw [if_pos (by omega), show 2 ^ (a + 1) * (2 * m + 1) / 2 = 2 ^ a * (2 * m + 1) by omega, twos_spec f a m (by omega)]
def encN : List Int → Nat
  | [] => 0
  | i :: l => 2 ^ zig i * (2 * encN l + 1)
def decN : Nat → Nat → List Int
  | 0, _ => []
  | f + 1, n => if n = 0 then [] else zag (twos n n).1 :: decN f ((twos n n).2 / 2)
theorem decN_encN : ∀ (l : List Int) (f : Nat), encN l ≤ f → decN f (encN l) = l
  | [], f, _ => by cases f <;> simp [encN, decN]
  | i :: l, f, h => by
    have hp : 0 < 2 ^ zig i := Nat.pow_pos (by decide)
    have hlt : zig i < 2 ^ zig i := Nat.lt_two_pow_self
    have hmul : 2 ^ zig i * 1 ≤ 2 ^ zig i * (2 * encN l + 1) := Nat.mul_le_mul_left _ (by omega)
    have hmul2 : 1 * (2 * encN l + 1) ≤ 2 ^ zig i * (2 * encN l + 1) := Nat.mul_le_mul_right _ hp
    cases f with
    | zero => unfold encN at h; omega
    | succ f =>
      unfold decN
      unfold encN at h ⊢
      rw [if_neg (by omega), twos_spec _ _ _ (by omega)]
      simp only
      rw [zag_zig, show (2 * encN l + 1) / 2 = encN l by omega, decN_encN l f (by omega)]
def enc (l : List Int) : Int := encN l
def dec (i : Int) : List Int := decN i.toNat i.toNat
theorem dec_enc (l : List Int) : dec (enc l) = l := by
  unfold dec enc
  rw [Int.toNat_natCast]
  exact decN_encN l _ (Nat.le_refl _)

/-- A cell's kind: a number, a bool, an address within what the k-th address argument points to, a string. -/
inductive CK where
  | int (k : IntKind)
  | bool
  | pt (k o : Nat)
  | str

/-- A list of conditions: all of them hold. -/
abbrev Gd := List (B × Bool)
def Gd.d (ρ : Env) (g : Gd) : Bool := g.all fun p => p.1.d ρ == p.2
@[simp] theorem Gd.d_nil (ρ : Env) : Gd.d ρ [] = true := rfl
@[simp] theorem Gd.d_cons (ρ : Env) (p : B × Bool) (g : Gd) : Gd.d ρ (p :: g) = (p.1.d ρ == p.2 && Gd.d ρ g) := rfl
@[simp] theorem Gd.d_append (ρ : Env) (g h : Gd) : Gd.d ρ (g ++ h) = (Gd.d ρ g && Gd.d ρ h) := by
  unfold Gd.d; simp
def Gd.mem (p : B × Bool) (g : Gd) : Bool := g.any fun q => p.1.eq q.1 && p.2 == q.2
def Gd.sub (g h : Gd) : Bool := g.all fun p => Gd.mem p h
theorem Gd.mem_d {ρ : Env} {p : B × Bool} {g : Gd} (h : Gd.mem p g = true) (hg : Gd.d ρ g = true) : p.1.d ρ = p.2 := by
  unfold Gd.mem at h
  simp only [List.any_eq_true, Bool.and_eq_true, beq_iff_eq] at h
  obtain ⟨q, hq, he, h2⟩ := h
  unfold Gd.d at hg
  simp only [List.all_eq_true, beq_iff_eq] at hg
  rw [B.eq_sound he, h2]
  exact hg q hq
theorem Gd.sub_d {ρ : Env} {g h : Gd} (hs : Gd.sub g h = true) (hh : Gd.d ρ h = true) : Gd.d ρ g = true := by
  unfold Gd.sub at hs
  simp only [List.all_eq_true] at hs
  unfold Gd.d
  simp only [List.all_eq_true, beq_iff_eq]
  exact fun p hp => Gd.mem_d (hs p hp) hh

/-- A function's value: none, or a function with the addresses that it captured. -/
abbrev FV := Option (Nat × List (Nat × Nat))
/-- A string, as one number. -/
def bytesI (s : ByteArray) : List Int := s.data.toList.map fun b => (b.toNat : Int)
def encS (s : ByteArray) : Int := enc (bytesI s)
theorem encS_inj {s t : ByteArray} (h : encS s = encS t) : s = t := by
  have h1 : bytesI s = bytesI t := by rw [← dec_enc (bytesI s), ← dec_enc (bytesI t)]; exact congrArg dec h
  have h2 : s.data.toList = t.data.toList := by
    refine List.map_inj_right (f := fun b : UInt8 => (b.toNat : Int)) (fun x y hxy => ?_) |>.1 h1
    exact UInt8.toNat_inj.1 (by exact_mod_cast hxy)
  cases s; cases t; congr 1; exact Array.toList_inj.1 h2

/-- One cell: a number in its kind, a bool, an address (alternatives under conditions, then one without), an address by a number, a slice of a stretch, a known value, anything. -/
inductive C where
  | int (k : IntKind) (a : A)
  | bool (b : B)
  | ptr (l : List (B × Nat × Nat)) (id off : Nat)
  | pix (id off s len : Nat) (a : A) (k : Nat)
  | sli (id off len cap : Nat)
  | slx (id : Nat) (ks : List CK) (q len : A)
  | pxq (id : Nat) (ks : List CK) (q a : A) (k : Nat)
  | val (v : Value)
  | junk
  | str (q : A)
  | fn (l : List (B × FV)) (d : FV)
  | mp (id : Nat)

/-- A value: one cell, or an aggregate's cells; or a tuple of these. -/
inductive S where
  | one (agg : Bool) (l : List C)
  | tup (l : List (Bool × List C))
  | any

/-- A slot's content: if the conditions hold, such a value; else nothing was written. -/
structure SV where
  g : Gd
  s : S

def anySV : SV := { g := [], s := .any }

/-- A stretch of cells that is known. -/
structure Blk where
  g : Gd
  ro : Bool
  cells : List C

/-- Where a stretch lies. -/
structure Rg where
  blk : Nat
  off : Nat
  len : Nat
  ro : Bool
  sq : Option (List CK × List Int) := none

abbrev Beta := Nat → Option Rg

def InR (k : IntKind) (n : Int) : Prop := k.min ≤ n ∧ n ≤ k.max

/-- Which alternative it is. -/
def pick (ρ : Env) : List (B × Nat × Nat) → Nat → Nat → Nat × Nat
  | [], id, off => (id, off)
  | (b, i, o) :: l, id, off => if b.d ρ then (i, o) else pick ρ l id off

def pickF (ρ : Env) : List (B × FV) → FV → FV
  | [], d => d
  | (b, f) :: l, d => if b.d ρ then f else pickF ρ l d
/-- The addresses that were captured. -/
def capMt (β : Beta) : List (Nat × Nat) → List Value → Prop
  | [], [] => True
  | p :: l, v :: vs => (∃ r, β p.1 = some r ∧ v = .pointer (some ⟨r.blk, r.off + p.2, none⟩)) ∧ capMt β l vs
  | _, _ => False
def fvMt (β : Beta) (f : FV) (v : Value) : Prop :=
  match f with
  | none => v = .nilFunc
  | some p => ∃ vs : List Value, v = .func (.func p.1) #[] vs.toArray ∧ capMt β p.2 vs

def oneCell : Value → Bool
  | .agg _ | .tuple _ => false
  | _ => true

def C.mt (β : Beta) (ρ : Env) : C → Value → Prop
  | .int k a, v => v = .int k (a.d ρ) ∧ InR k (a.d ρ)
  | .bool b, v => v = .bool (b.d ρ)
  | .ptr l id off, v => ∃ r, β (pick ρ l id off).1 = some r ∧ v = .pointer (some ⟨r.blk, r.off + (pick ρ l id off).2, none⟩)
  | .pix id off s len a k, v => 0 ≤ a.d ρ ∧ a.d ρ < len ∧ ∃ r, β id = some r ∧ v = .pointer (some ⟨r.blk, r.off + (off + (a.d ρ).toNat * s + k), none⟩)
  | .sli id off len cap, v => ∃ r, β id = some r ∧ v = .slice (some ⟨r.blk, r.off + off, none⟩) len cap
  | .slx id ks q len, v => 0 ≤ len.d ρ ∧ InR .i64 (len.d ρ) ∧ ((q.d ρ = enc [] ∧ len.d ρ = 0 ∧ ∃ p cap, v = .slice p 0 cap) ∨
      ∃ r cap l, β id = some r ∧ r.sq = some (ks, l) ∧ q.d ρ = enc l ∧ 0 < len.d ρ ∧ l.length = (len.d ρ).toNat * ks.length ∧ v = .slice (some ⟨r.blk, r.off, none⟩) (len.d ρ).toNat cap)
  | .pxq id ks q a k, v => 0 ≤ a.d ρ ∧ ∃ r l, β id = some r ∧ r.sq = some (ks, l) ∧ q.d ρ = enc l ∧ ((a.d ρ).toNat + 1) * ks.length ≤ l.length ∧
      v = .pointer (some ⟨r.blk, r.off + ((a.d ρ).toNat * ks.length + k), none⟩)
  | .val u, v => v = u ∧ oneCell u = true
  | .junk, v => oneCell v = true
  | .str q, v => ∃ s : ByteArray, v = .string s ∧ q.d ρ = encS s ∧ InR .i64 s.size
  | .fn l d, v => fvMt β (pickF ρ l d) v
  | .mp id, v => ∃ r, β id = some r ∧ v = .map (some r.blk)

def mtL (β : Beta) (ρ : Env) : List C → List Value → Prop
  | [], [] => True
  | c :: cs, v :: vs => c.mt β ρ v ∧ mtL β ρ cs vs
  | _, _ => False

def mt1 (β : Beta) (ρ : Env) (agg : Bool) (l : List C) (v : Value) : Prop :=
  if agg then ∃ vs, v = .agg vs ∧ mtL β ρ l vs.toList else ∃ c, l = [c] ∧ c.mt β ρ v

def mtT (β : Beta) (ρ : Env) : List (Bool × List C) → List Value → Prop
  | [], [] => True
  | p :: ps, v :: vs => mt1 β ρ p.1 p.2 v ∧ mtT β ρ ps vs
  | _, _ => False

def S.mt (β : Beta) (ρ : Env) : S → Value → Prop
  | .one agg l, v => mt1 β ρ agg l v
  | .tup l, v => ∃ vs, v = .tuple vs ∧ mtT β ρ l vs.toList
  | .any, _ => True

/-- What may stand in a slot. Where nothing is known: anything. -/
def SV.mt (β : Beta) (ρ : Env) (x : SV) (v : Value) : Prop :=
  (Gd.d ρ x.g = true → x.s.mt β ρ v) ∧ (Gd.d ρ x.g = false → v = undef)

/-! ### Definitions -/
def arI (op : BinOp) (k : IntKind) (x y : Int) : Int :=
  match op with
  | .add => k.wrap (x + y)
  | .sub => k.wrap (x - y)
  | .mul => k.wrap (x * y)
  | .quo => k.wrap (x.tdiv y)
  | .rem => x.tmod y
  | .and => k.wrap (BitVec.ofInt k.bits x &&& BitVec.ofInt k.bits y).toNat
  | .or => k.wrap (BitVec.ofInt k.bits x ||| BitVec.ofInt k.bits y).toNat
  | .xor => k.wrap (BitVec.ofInt k.bits x ^^^ BitVec.ofInt k.bits y).toNat
  | .andNot => k.wrap (BitVec.ofInt k.bits x &&& ~~~ BitVec.ofInt k.bits y).toNat
  | .shl => k.wrap (x * 2 ^ (min y.toNat k.bits))
  | .shr => x.fdiv (2 ^ (min y.toNat k.bits))
  | _ => 0
def cmB (op : BinOp) (x y : Int) : Bool :=
  match op with
  | .eql => x == y
  | .neq => x != y
  | .lss => decide (x < y)
  | .leq => decide (x ≤ y)
  | .gtr => decide (x > y)
  | .geq => decide (x ≥ y)
  | _ => false

inductive RI where
  | ar (op : BinOp) (k : IntKind) (a b : A)
  | cv (k : IntKind) (a : A)
  | ite (c : B) (a b : A)
  | mn (a b : A)
  | mx (a b : A)
  | tab (l : List Int) (a : A)
  | get (q a : A) (s k : Nat)
  | lenq (q : A) (s : Nat)
def RI.d (ρ : Env) : RI → Int
  | .ar op k a b => arI op k (a.d ρ) (b.d ρ)
  | .cv k a => k.wrap (a.d ρ)
  | .ite c a b => if c.d ρ then a.d ρ else b.d ρ
  | .mn a b => if b.d ρ < a.d ρ then b.d ρ else a.d ρ
  | .mx a b => if b.d ρ > a.d ρ then b.d ρ else a.d ρ
  | .tab l a => l.getD (a.d ρ).toNat 0
  | .get q a s k => (dec (q.d ρ)).getD ((a.d ρ).toNat * s + k) 0
  | .lenq q s => ((dec (q.d ρ)).length / s : Nat)

inductive RB where
  | cm (op : BinOp) (a b : A)
  | not (a : B)
  | and (a b : B)
  | or (a b : B)
  | eqb (a b : B)
  | ite (c a b : B)
  | getb (q a : A) (s k : Nat)
def RB.d (ρ : Env) : RB → Bool
  | .cm op a b => cmB op (a.d ρ) (b.d ρ)
  | .not a => !(a.d ρ)
  | .and a b => a.d ρ && b.d ρ
  | .or a b => a.d ρ || b.d ρ
  | .eqb a b => a.d ρ == b.d ρ
  | .ite c a b => if c.d ρ then a.d ρ else b.d ρ
  | .getb q a s k => (dec (q.d ρ)).getD ((a.d ρ).toNat * s + k) 0 != 0

/-- What functions answer: numbers and bools in, numbers and bools out. -/
abbrev Fun := List Int → List Bool → List Int × List Bool
abbrev Funs := Nat → Fun

/-- What is emitted: a number's definition, a bool's, a call's answers, an obligation. -/
inductive Em where
  | di (n : Nat) (r : RI)
  | db (n : Nat) (r : RB)
  | call (f : Nat) (ai : List A) (ab : List B) (i0 ni b0 nb : Nat)
  | ob (g : Gd) (b : B)

def Em.ok (Φ : Funs) (ρ : Env) : Em → Prop
  | .di n r => ρ.i n = r.d ρ
  | .db n r => ρ.b n = r.d ρ
  | .call f ai ab i0 ni b0 nb =>
    (∀ j, j < ni → ρ.i (i0 + j) = (Φ f (ai.map (A.d ρ)) (ab.map (B.d ρ))).1.getD j 0) ∧
    (∀ j, j < nb → ρ.b (b0 + j) = (Φ f (ai.map (A.d ρ)) (ab.map (B.d ρ))).2.getD j false)
  | .ob g b => Gd.d ρ g = true → b.d ρ = true

def Good (Φ : Funs) (ρ : Env) (l : List Em) : Prop := ∀ e, e ∈ l → e.ok Φ ρ
theorem Good.nil {Φ : Funs} {ρ : Env} : Good Φ ρ [] := fun _ h => by cases h
theorem Good.append {Φ : Funs} {ρ : Env} {l m : List Em} : Good Φ ρ (l ++ m) ↔ Good Φ ρ l ∧ Good Φ ρ m := by
  constructor
  · exact fun h => ⟨fun e he => h e (List.mem_append.2 (.inl he)), fun e he => h e (List.mem_append.2 (.inr he))⟩
  · rintro ⟨h1, h2⟩ e he
    rcases List.mem_append.1 he with h | h
    · exact h1 e h
    · exact h2 e h
theorem Good.cons {Φ : Funs} {ρ : Env} {e : Em} {m : List Em} : Good Φ ρ (e :: m) ↔ e.ok Φ ρ ∧ Good Φ ρ m := by
  constructor
  · exact fun h => ⟨h e (List.mem_cons.2 (.inl rfl)), fun x hx => h x (List.mem_cons.2 (.inr hx))⟩
  · rintro ⟨h1, h2⟩ x hx
    rcases List.mem_cons.1 hx with h | h
    · exact h ▸ h1
    · exact h2 x h

/-- The next numbers: of numbers, of bools, of stretches. -/
structure Ctr where
  i : Nat
  b : Nat
  id : Nat

def M (α : Type) : Type := Ctr → Option (α × Ctr × List Em)
namespace M
def pure {α : Type} (x : α) : M α := fun c => some (x, c, [])
def bind {α β : Type} (m : M α) (f : α → M β) : M β := fun c =>
  match m c with
  | none => none
  | some (x, c1, o1) => match f x c1 with
    | none => none
    | some (y, c2, o2) => some (y, c2, o1 ++ o2)
def fail {α : Type} : M α := fun _ => none
instance : Monad M where
  pure := M.pure
  bind := M.bind
/-- What is emitted, under conditions. -/
def emG (g : Gd) : Em → Em
  | .ob h b => .ob (g ++ h) b
  | e => e
def under {α : Type} (g : Gd) (m : M α) : M α := fun c =>
  match m c with
  | none => none
  | some (x, c1, o1) => some (x, c1, o1.map (emG g))
end M

/-- What an answer of the writer is worth: if what was emitted holds, then this. (What it says of stretches' numbers besides.) -/
def Snd {α : Type} (Φ : Funs) (ρ : Env) (m : M α) (p : α → Prop) : Prop :=
  ∀ c x c' o, m c = some (x, c', o) → Good Φ ρ o → p x
section
variable {α β : Type} {Φ : Funs} {ρ : Env}
theorem Snd.pure {x : α} {p : α → Prop} (h : p x) : Snd Φ ρ (Pure.pure x : M α) p := by
  intro c y c' o he _
  simp only [Pure.pure, M.pure, Option.some.injEq, Prod.mk.injEq] at he
  exact he.1 ▸ h
theorem Snd.bind {m : M α} {f : α → M β} {p : α → Prop} {q : β → Prop} (hm : Snd Φ ρ m p) (hf : ∀ x, p x → Snd Φ ρ (f x) q) : Snd Φ ρ (m >>= f) q := by
  intro c y c' o he hg
  simp only [Bind.bind, M.bind] at he
  cases h1 : m c with
  | none => rw [h1] at he; cases he
  | some r =>
    obtain ⟨x, c1, o1⟩ := r
    rw [h1] at he
    simp only at he
    cases h2 : f x c1 with
    | none => rw [h2] at he; cases he
    | some r2 =>
      obtain ⟨z, c2, o2⟩ := r2
      rw [h2] at he
      simp only [Option.some.injEq, Prod.mk.injEq] at he
      obtain ⟨rfl, rfl, rfl⟩ := he
      rw [Good.append] at hg
      exact hf x (hm _ _ _ _ h1 hg.1) _ _ _ _ h2 hg.2
theorem Snd.fail {p : α → Prop} : Snd Φ ρ (M.fail : M α) p := fun _ _ _ _ he => by cases he
theorem Snd.mono {m : M α} {p q : α → Prop} (h : Snd Φ ρ m p) (hpq : ∀ x, p x → q x) : Snd Φ ρ m q :=
  fun c x c' o he hg => hpq x (h c x c' o he hg)
theorem Snd.and {m : M α} {p q : α → Prop} (h : Snd Φ ρ m p) (h' : Snd Φ ρ m q) : Snd Φ ρ m (fun x => p x ∧ q x) :=
  fun c x c' o he hg => ⟨h c x c' o he hg, h' c x c' o he hg⟩
theorem Snd.triv {m : M α} : Snd Φ ρ m (fun _ => True) := fun _ _ _ _ _ _ => trivial
theorem Good.under {g : Gd} {l : List Em} (hg : Gd.d ρ g = true) (h : Good Φ ρ (l.map (M.emG g))) : Good Φ ρ l := by
  intro e he
  have := h _ (List.mem_map.2 ⟨e, he, rfl⟩)
  cases e <;> try exact this
  case ob g' b =>
    intro hg'
    exact this (by simp [hg, hg'])
theorem Snd.under {g : Gd} {m : M α} {p : α → Prop} (hg : Gd.d ρ g = true) (h : Snd Φ ρ m p) : Snd Φ ρ (M.under g m) p := by
  intro c x c' o he hgd
  simp only [M.under] at he
  cases h1 : m c with
  | none => rw [h1] at he; cases he
  | some r =>
    obtain ⟨y, c1, o1⟩ := r
    rw [h1] at he
    simp only [Option.some.injEq, Prod.mk.injEq] at he
    obtain ⟨rfl, rfl, rfl⟩ := he
    exact h _ _ _ _ h1 (Good.under hg hgd)
end

/-! ### Emitting -/
def newI (r : RI) : M A := fun c => some (.v c.i, { c with i := c.i + 1 }, [.di c.i r])
def newB (r : RB) : M B := fun c => some (.v c.b, { c with b := c.b + 1 }, [.db c.b r])
def newId : M Nat := fun c => some (c.id, { c with id := c.id + 1 }, [])
def oblige (b : B) : M Unit := fun c =>
  match b with
  | .c true => some ((), c, [])
  | b => some ((), c, [.ob [] b])
section
variable {Φ : Funs} {ρ : Env}
theorem newI_snd (r : RI) : Snd Φ ρ (newI r) (fun a => a.d ρ = r.d ρ) := by
  intro c x c' o he hg
  simp only [newI, Option.some.injEq, Prod.mk.injEq] at he
  obtain ⟨rfl, rfl, rfl⟩ := he
  exact hg (.di c.i r) (by simp)
theorem newB_snd (r : RB) : Snd Φ ρ (newB r) (fun a => a.d ρ = r.d ρ) := by
  intro c x c' o he hg
  simp only [newB, Option.some.injEq, Prod.mk.injEq] at he
  obtain ⟨rfl, rfl, rfl⟩ := he
  exact hg (.db c.b r) (by simp)
theorem oblige_snd (b : B) : Snd Φ ρ (oblige b) (fun _ => b.d ρ = true) := by
  intro c x c' o he hg
  unfold oblige at he
  split at he
  · rfl
  · simp only [Option.some.injEq, Prod.mk.injEq] at he
    obtain ⟨-, -, rfl⟩ := he
    exact hg (.ob [] b) (by simp) rfl
end

/-! ### With what is known folded -/
def mkAr (op : BinOp) (k : IntKind) (a b : A) : M A :=
  match a, b with
  | .c x, .c y => pure (.c (arI op k x y))
  | a, b => newI (.ar op k a b)
def mkCv (k : IntKind) (a : A) : M A :=
  match a with
  | .c x => pure (.c (k.wrap x))
  | a => newI (.cv k a)
def mkIteI (c : B) (a b : A) : M A :=
  match c with
  | .c true => pure a
  | .c false => pure b
  | c => if a.eq b then pure a else newI (.ite c a b)
def mkMn (a b : A) : M A :=
  match a, b with
  | .c x, .c y => pure (.c (if y < x then y else x))
  | a, b => newI (.mn a b)
def mkMx (a b : A) : M A :=
  match a, b with
  | .c x, .c y => pure (.c (if y > x then y else x))
  | a, b => newI (.mx a b)
def mkCm (op : BinOp) (a b : A) : M B :=
  match a, b with
  | .c x, .c y => pure (.c (cmB op x y))
  | a, b => newB (.cm op a b)
def mkNot (a : B) : M B :=
  match a with
  | .c x => pure (.c (!x))
  | a => newB (.not a)
def mkAnd (a b : B) : M B :=
  match a, b with
  | .c true, b => pure b
  | .c false, _ => pure (.c false)
  | a, .c true => pure a
  | _, .c false => pure (.c false)
  | a, b => newB (.and a b)
def mkOr (a b : B) : M B :=
  match a, b with
  | .c false, b => pure b
  | .c true, _ => pure (.c true)
  | a, .c false => pure a
  | _, .c true => pure (.c true)
  | a, b => newB (.or a b)
def mkEqb (a b : B) : M B :=
  match a, b with
  | .c true, b => pure b
  | a, .c true => pure a
  | .c x, .c y => pure (.c (x == y))
  | a, b => newB (.eqb a b)
def mkIteB (c a b : B) : M B :=
  match c with
  | .c true => pure a
  | .c false => pure b
  | c => if a.eq b then pure a else match a, b with
    | .c true, .c false => pure c
    | .c true, b => newB (.or c b)
    | a, .c false => newB (.and c a)
    | a, b => newB (.ite c a b)
section
variable {Φ : Funs} {ρ : Env}
theorem mkAr_snd (op : BinOp) (k : IntKind) (a b : A) : Snd Φ ρ (mkAr op k a b) (fun x => x.d ρ = arI op k (a.d ρ) (b.d ρ)) := by
  unfold mkAr
  split
  · exact Snd.pure rfl
  · exact newI_snd _
theorem mkCv_snd (k : IntKind) (a : A) : Snd Φ ρ (mkCv k a) (fun x => x.d ρ = k.wrap (a.d ρ)) := by
  unfold mkCv
  split
  · exact Snd.pure rfl
  · exact newI_snd _
theorem mkIteI_snd (c : B) (a b : A) : Snd Φ ρ (mkIteI c a b) (fun x => x.d ρ = if c.d ρ then a.d ρ else b.d ρ) := by
  unfold mkIteI
  split
  · exact Snd.pure (by simp [B.d])
  · exact Snd.pure (by simp [B.d])
  · split
    · rename_i h
      rw [A.eq_sound h]
      exact Snd.pure (by simp)
    · exact newI_snd _
theorem mkMn_snd (a b : A) : Snd Φ ρ (mkMn a b) (fun x => x.d ρ = if b.d ρ < a.d ρ then b.d ρ else a.d ρ) := by
  unfold mkMn
  split
  · exact Snd.pure rfl
  · exact newI_snd _
theorem mkMx_snd (a b : A) : Snd Φ ρ (mkMx a b) (fun x => x.d ρ = if b.d ρ > a.d ρ then b.d ρ else a.d ρ) := by
  unfold mkMx
  split
  · exact Snd.pure rfl
  · exact newI_snd _
theorem mkCm_snd (op : BinOp) (a b : A) : Snd Φ ρ (mkCm op a b) (fun x => x.d ρ = cmB op (a.d ρ) (b.d ρ)) := by
  unfold mkCm
  split
  · exact Snd.pure rfl
  · exact newB_snd _
theorem mkNot_snd (a : B) : Snd Φ ρ (mkNot a) (fun x => x.d ρ = !(a.d ρ)) := by
  unfold mkNot
  split
  · exact Snd.pure rfl
  · exact newB_snd _
theorem mkAnd_snd (a b : B) : Snd Φ ρ (mkAnd a b) (fun x => x.d ρ = (a.d ρ && b.d ρ)) := by
  unfold mkAnd
  split
  · exact Snd.pure (by simp [B.d])
  · exact Snd.pure (by simp [B.d])
  · exact Snd.pure (by simp [B.d])
  · exact Snd.pure (by simp [B.d])
  · exact newB_snd _
theorem mkOr_snd (a b : B) : Snd Φ ρ (mkOr a b) (fun x => x.d ρ = (a.d ρ || b.d ρ)) := by
  unfold mkOr
  split
  · exact Snd.pure (by simp [B.d])
  · exact Snd.pure (by simp [B.d])
  · exact Snd.pure (by simp [B.d])
  · exact Snd.pure (by simp [B.d])
  · exact newB_snd _
theorem mkEqb_snd (a b : B) : Snd Φ ρ (mkEqb a b) (fun x => x.d ρ = (a.d ρ == b.d ρ)) := by
  unfold mkEqb
  split
  · exact Snd.pure (by simp [B.d])
  · exact Snd.pure (by simp [B.d])
  · exact Snd.pure (by simp [B.d])
  · exact newB_snd _
theorem mkIteB_snd (c a b : B) : Snd Φ ρ (mkIteB c a b) (fun x => x.d ρ = if c.d ρ then a.d ρ else b.d ρ) := by
  unfold mkIteB
  split
  · exact Snd.pure (by simp [B.d])
  · exact Snd.pure (by simp [B.d])
  · split
    · rename_i h
      rw [B.eq_sound h]
      exact Snd.pure (by simp)
    · split
      · exact Snd.pure (by show c.d ρ = if c.d ρ then true else false; simp)
      · exact (newB_snd _).mono fun x hx => by rw [hx]; simp [RB.d]
      · exact (newB_snd _).mono fun x hx => by rw [hx]; simp [RB.d]
      · exact newB_snd _
end
end Go.Proofs.YtalnndmnnffnmaaGreat.Sx
/-! ## SxB -/
set_option linter.unusedVariables false
set_option linter.unusedSimpArgs false
namespace Go.Proofs.YtalnndmnnffnmaaGreat.Sx
open Go

def inRg (r : Rg) (a : Addr) : Prop := a.block = r.blk ∧ r.off ≤ a.off ∧ a.off < r.off + r.len

/-- Of what was there all is as it was, but for these stretches' cells. -/
structure Keep (W : List Rg) (w w' : World) : Prop where
  os : w'.os = w.os
  tape : w'.tape = w.tape
  output : w'.output = w.output
  size : w.heap.size ≤ w'.heap.size
  cell : ∀ a : Addr, a.block < w.heap.size → (∀ r, r ∈ W → ¬ inRg r a) → w'.cell? a = w.cell? a
  frz : ∀ a : Addr, a.block < w.heap.size → w'.frozen? a = w.frozen? a
  shp : ∀ k, k < w.heap.size → w'.shape? k = w.shape? k
  blk : ∀ k, k < w.heap.size → (∀ r, r ∈ W → r.blk ≠ k) → w'.heap[k]? = w.heap[k]?

theorem Keep.refl (W : List Rg) (w : World) : Keep W w w :=
  ⟨rfl, rfl, rfl, Nat.le_refl _, fun _ _ _ => rfl, fun _ _ => rfl, fun _ _ => rfl, fun _ _ _ => rfl⟩

theorem cell?_of_blk {w w' : World} {a : Addr} (h : w'.heap[a.block]? = w.heap[a.block]?) : w'.cell? a = w.cell? a := by
  unfold World.cell?; rw [h]
theorem frozen?_of_blk {w w' : World} {a : Addr} (h : w'.heap[a.block]? = w.heap[a.block]?) : w'.frozen? a = w.frozen? a := by
  unfold World.frozen?; rw [h]
theorem shape?_of_blk {w w' : World} {k : Nat} (h : w'.heap[k]? = w.heap[k]?) : w'.shape? k = w.shape? k := by
  unfold World.shape?; rw [h]

/-- Nothing at all has turned. -/
theorem Keep.of_blocks {W : List Rg} {w w' : World} (h1 : w'.os = w.os) (h2 : w'.tape = w.tape) (h3 : w'.output = w.output) (h4 : w.heap.size ≤ w'.heap.size)
    (h : ∀ k, k < w.heap.size → w'.heap[k]? = w.heap[k]?) : Keep W w w' :=
  ⟨h1, h2, h3, h4, fun a ha _ => cell?_of_blk (h _ ha), fun a ha => frozen?_of_blk (h _ ha), fun k hk => shape?_of_blk (h k hk), fun k hk _ => h k hk⟩

theorem Keep.alloc (W : List Rg) (w : World) (o : Obj) : Keep W w (w.alloc o) :=
  Keep.of_blocks rfl rfl rfl (by simp) fun k hk => Go.RowKit.Below.heap_alloc w o k hk
theorem Keep.drew (W : List Rg) (w : World) : Keep W w { w with drawn := w.drawn + 1 } :=
  Keep.of_blocks rfl rfl rfl (Nat.le_refl _) fun _ _ => rfl
theorem shape?_setCell (w : World) (a : Addr) (v : Value) (k : Nat) : (w.setCell a v).shape? k = w.shape? k := by
  simp only [World.setCell, World.shape?, Array.getElem?_modify]
  by_cases hb : a.block = k
  · simp only [hb, if_true]
    cases hh : w.heap[k]? with
    | none => simp
    | some x => cases x <;> simp <;> split <;> simp
  · simp [hb]
theorem Keep.setCell {W : List Rg} {w : World} {a : Addr} (v : Value) {r : Rg} (hr : r ∈ W) (ha : inRg r a) : Keep W w (w.setCell a v) :=
  ⟨rfl, rfl, rfl, by simp, fun b _ hn => World.cell?_setCell_other w a b v (fun e => hn r hr (e ▸ ha)), fun b _ => World.frozen?_setCell w a b v,
    fun k _ => shape?_setCell w a v k, fun k _ hn => Go.RowKit.Below.heap_setCell w a v k (fun e => hn r hr (by rw [← ha.1, e]))⟩

/-- A stretch that is new, or within one of those. -/
def Cov (W : List Rg) (N : Nat) (r : Rg) : Prop :=
  N ≤ r.blk ∨ ∃ q, q ∈ W ∧ q.blk = r.blk ∧ q.off ≤ r.off ∧ r.off + r.len ≤ q.off + q.len
theorem Cov.inRg {W : List Rg} {N : Nat} {r : Rg} (h : Cov W N r) {a : Addr} (ha : inRg r a) (hN : a.block < N) : ∃ q, q ∈ W ∧ Sx.inRg q a := by
  rcases h with h | ⟨q, hq, hb, h1, h2⟩
  · have := ha.1; omega
  · refine ⟨q, hq, ?_⟩
    unfold Sx.inRg at *
    omega
theorem Keep.trans {W W' : List Rg} {w w1 w2 : World} (h : Keep W w w1) (h' : Keep W' w1 w2) (hc : ∀ r, r ∈ W' → Cov W w.heap.size r) : Keep W w w2 := by
  have hs := h.size
  refine ⟨h'.os.trans h.os, h'.tape.trans h.tape, h'.output.trans h.output, Nat.le_trans h.size h'.size, fun a ha hn => ?_, fun a ha => ?_, fun k hk => ?_, fun k hk hn => ?_⟩
  · refine (h'.cell a (by omega) fun r hr hi => ?_).trans (h.cell a ha hn)
    obtain ⟨q, hq, hqi⟩ := (hc r hr).inRg hi ha
    exact hn q hq hqi
  · exact (h'.frz a (by omega)).trans (h.frz a ha)
  · exact (h'.shp k (by omega)).trans (h.shp k hk)
  · refine (h'.blk k (by omega) fun r hr hi => ?_).trans (h.blk k hk hn)
    rcases hc r hr with h1 | ⟨q, hq, hb, _, _⟩
    · omega
    · exact hn q hq (hb.trans hi)
/-- With nothing let: as 'Below' has it. -/
theorem Keep.below {w w' : World} (h : Keep [] w w') : Go.RowKit.Below w.heap.size w w' :=
  ⟨h.os, h.tape, h.output, h.size, fun k hk => h.blk k hk (fun r hr => by cases hr)⟩
theorem Keep.nil_any {W : List Rg} {w w' : World} (h : Keep [] w w') : Keep W w w' :=
  Keep.of_blocks h.os h.tape h.output h.size fun k hk => h.blk k hk (fun r hr => by cases hr)

def Rg.apart (r q : Rg) : Prop := r.blk ≠ q.blk ∨ r.off + r.len ≤ q.off ∨ q.off + q.len ≤ r.off

/-- What a cell of a kind holds, said as a number. -/
def ckv : CK → Int → Value → Prop
  | .int k, n, v => v = .int k n ∧ InR k n
  | .bool, n, v => (n = 0 ∨ n = 1) ∧ v = .bool (n != 0)
  | .pt _ _, _, _ => False
  | .str, n, v => ∃ s : ByteArray, v = .string s ∧ n = encS s ∧ InR .i64 s.size
/-- A stretch that holds a list of numbers, of kinds that go around. -/
def seqAt (w : World) (b o : Nat) (ks : List CK) (l : List Int) : Prop :=
  ∀ (j : Nat) (n : Int), l[j]? = some n → ∃ ck v, ks[j % ks.length]? = some ck ∧ w.cell? ⟨b, o + j, none⟩ = some v ∧ ckv ck n v
def SqOk (β : Beta) (w : World) : Prop := ∀ i r ks l, β i = some r → r.sq = some (ks, l) → r.ro = true ∧ l.length = r.len ∧ seqAt w r.blk r.off ks l

/-- Where stretches lie: apart, among what is there, new or let. -/
structure BetaOk (N : Nat) (R : List Rg) (β : Beta) (w : World) : Prop where
  apart : ∀ i j r q, i ≠ j → β i = some r → β j = some q → (r.ro = true ∧ q.ro = true) ∨ r.apart q
  place : ∀ i r, β i = some r → r.blk < w.heap.size
  may : ∀ i r, β i = some r → r.ro = true ∨ Cov R N r
  sq : SqOk β w

def Ext (β β' : Beta) : Prop := ∀ i r, β i = some r → β' i = some r
theorem Ext.refl (β : Beta) : Ext β β := fun _ _ h => h
theorem Ext.trans {β γ δ : Beta} (h : Ext β γ) (h' : Ext γ δ) : Ext β δ := fun i r hi => h' i r (h i r hi)

theorem capMt_ext {β β' : Beta} (h : Ext β β') : ∀ {l : List (Nat × Nat)} {vs : List Value}, capMt β l vs → capMt β' l vs
  | [], [], _ => trivial
  | _ :: _, _ :: _, ⟨⟨r, hr, hv⟩, h2⟩ => ⟨⟨r, h _ _ hr, hv⟩, capMt_ext h h2⟩
theorem fvMt_ext {β β' : Beta} (h : Ext β β') {f : FV} {v : Value} (hv : fvMt β f v) : fvMt β' f v := by
  unfold fvMt at *
  cases f with
  | none => exact hv
  | some p => obtain ⟨vs, h1, h2⟩ := hv; exact ⟨vs, h1, capMt_ext h h2⟩
theorem C.mt_ext {β β' : Beta} {ρ : Env} (h : Ext β β') {c : C} {v : Value} (hc : c.mt β ρ v) : c.mt β' ρ v := by
  cases c with
  | ptr l id off => obtain ⟨r, hr, hv⟩ := hc; exact ⟨r, h _ _ hr, hv⟩
  | pix id off s len a k => obtain ⟨h1, h2, r, hr, hv⟩ := hc; exact ⟨h1, h2, r, h _ _ hr, hv⟩
  | sli id off len cap => obtain ⟨r, hr, hv⟩ := hc; exact ⟨r, h _ _ hr, hv⟩
  | slx id ks q len =>
    obtain ⟨h1, h2, h3⟩ := hc
    refine ⟨h1, h2, ?_⟩
    rcases h3 with h3 | ⟨r, cap, l, hr, h4⟩
    · exact .inl h3
    · exact .inr ⟨r, cap, l, h _ _ hr, h4⟩
  | pxq id ks q a k => obtain ⟨h1, r, l, hr, h2⟩ := hc; exact ⟨h1, r, l, h _ _ hr, h2⟩
  | fn l d => exact fvMt_ext h hc
  | mp id => obtain ⟨r, hr, hv⟩ := hc; exact ⟨r, h _ _ hr, hv⟩
  | _ => exact hc
theorem mtL_ext {β β' : Beta} {ρ : Env} (h : Ext β β') : ∀ {l : List C} {vs : List Value}, mtL β ρ l vs → mtL β' ρ l vs
  | [], [], _ => trivial
  | _ :: _, _ :: _, ⟨h1, h2⟩ => ⟨C.mt_ext h h1, mtL_ext h h2⟩
theorem mt1_ext {β β' : Beta} {ρ : Env} (h : Ext β β') {agg : Bool} {l : List C} {v : Value} (hv : mt1 β ρ agg l v) : mt1 β' ρ agg l v := by
  unfold mt1 at *
  cases agg
  · obtain ⟨c, h1, h2⟩ := hv; exact ⟨c, h1, C.mt_ext h h2⟩
  · obtain ⟨vs, h1, h2⟩ := hv; exact ⟨vs, h1, mtL_ext h h2⟩
theorem mtT_ext {β β' : Beta} {ρ : Env} (h : Ext β β') : ∀ {l : List (Bool × List C)} {vs : List Value}, mtT β ρ l vs → mtT β' ρ l vs
  | [], [], _ => trivial
  | _ :: _, _ :: _, ⟨h1, h2⟩ => ⟨mt1_ext h h1, mtT_ext h h2⟩
theorem S.mt_ext {β β' : Beta} {ρ : Env} (h : Ext β β') {s : S} {v : Value} (hs : s.mt β ρ v) : s.mt β' ρ v := by
  cases s with
  | one agg l => exact mt1_ext h hs
  | tup l => obtain ⟨vs, h1, h2⟩ := hs; exact ⟨vs, h1, mtT_ext h h2⟩
  | any => trivial
theorem SV.mt_ext {β β' : Beta} {ρ : Env} (h : Ext β β') {x : SV} {v : Value} (hs : x.mt β ρ v) : x.mt β' ρ v :=
  ⟨fun hg => S.mt_ext h (hs.1 hg), hs.2⟩

/-- The cells from j on. -/
def cellsAt (β : Beta) (ρ : Env) (w : World) (b : Nat) : Nat → List C → Prop
  | _, [] => True
  | o, c :: cs => (∃ v, w.cell? ⟨b, o, none⟩ = some v ∧ c.mt β ρ v) ∧ cellsAt β ρ w b (o + 1) cs
theorem cellsAt_iff {β : Beta} {ρ : Env} {w : World} {b : Nat} : ∀ {o : Nat} {l : List C}, cellsAt β ρ w b o l ↔ ∀ j c, l[j]? = some c → ∃ v, w.cell? ⟨b, o + j, none⟩ = some v ∧ c.mt β ρ v
  | o, [] => by simp [cellsAt]
  | o, c :: cs => by
    rw [cellsAt, cellsAt_iff (o := o + 1) (l := cs)]
    constructor
    · rintro ⟨h1, h2⟩ j d hd
      cases j with
      | zero => simp at hd; subst hd; exact h1
      | succ j => simp at hd; have := h2 j d hd; rwa [show o + 1 + j = o + (j + 1) by omega] at this
    · intro h
      refine ⟨h 0 c (by simp), fun j d hd => ?_⟩
      have := h (j + 1) d (by simpa using hd)
      rwa [show o + (j + 1) = o + 1 + j by omega] at this

/-- A stretch holds what is known of it. -/
def blkMt (β : Beta) (ρ : Env) (w : World) (id : Nat) (b : Blk) : Prop :=
  ∃ r, β id = some r ∧ r.len = b.cells.length ∧ r.ro = b.ro ∧ cellsAt β ρ w r.blk r.off b.cells ∧
    (b.ro = false → ∀ j, j < b.cells.length → w.frozen? ⟨r.blk, r.off + j, none⟩ = false)

abbrev Hp := Nat → Option Blk
def heapMt (β : Beta) (ρ : Env) (hp : Hp) (w : World) : Prop := ∀ id b, hp id = some b → Gd.d ρ b.g = true → blkMt β ρ w id b

theorem cellsAt_congr {β β' : Beta} {ρ : Env} {w w' : World} {b : Nat} (he : Ext β β') {o : Nat} {l : List C}
    (h : ∀ j, j < l.length → w'.cell? ⟨b, o + j, none⟩ = w.cell? ⟨b, o + j, none⟩) (hc : cellsAt β ρ w b o l) : cellsAt β' ρ w' b o l := by
  rw [cellsAt_iff] at *
  intro j c hj
  obtain ⟨v, hv, hm⟩ := hc j c hj
  exact ⟨v, by rw [h j (by exact (List.getElem?_eq_some_iff.1 hj).1)]; exact hv, C.mt_ext he hm⟩

theorem BetaOk.apartW {N : Nat} {R : List Rg} {β : Beta} {w : World} (h : BetaOk N R β w) {i j : Nat} {r q : Rg} (hij : i ≠ j) (hi : β i = some r) (hj : β j = some q) (hro : r.ro = false) : r.apart q :=
  (h.apart i j r q hij hi hj).resolve_left fun hh => by rw [hh.1] at hro; cases hro

/-- What was not written holds what it held. -/
theorem blkMt_keep {N : Nat} {R : List Rg} {β β' : Beta} {ρ : Env} {w w' : World} {W : List Rg} (he : Ext β β') (hb : BetaOk N R β w) (hk : Keep W w w')
    {id : Nat} {b : Blk} (hW : ∀ r q, r ∈ W → β id = some q → r.apart q) (h : blkMt β ρ w id b) : blkMt β' ρ w' id b := by
  obtain ⟨r, hr, hl, hro, hc, hf⟩ := h
  have hp := hb.place id r hr
  refine ⟨r, he _ _ hr, hl, hro, cellsAt_congr he (fun j hj => hk.cell _ hp fun q hq hi => ?_) hc, fun h0 j hj => (hk.frz _ hp).trans (hf h0 j hj)⟩
  have := hW q r hq hr
  unfold inRg at hi
  unfold Rg.apart at this
  simp only at hi
  omega

/-- A new stretch. -/
def Beta.set (β : Beta) (id : Nat) (r : Rg) : Beta := fun i => if i = id then some r else β i
theorem Beta.set_same (β : Beta) (id : Nat) (r : Rg) : β.set id r id = some r := by simp [Beta.set]
theorem Beta.set_ext {β : Beta} {id : Nat} {r : Rg} (h : β id = none) : Ext β (β.set id r) := fun i q hi => by
  unfold Beta.set
  by_cases e : i = id
  · subst e; rw [h] at hi; cases hi
  · rw [if_neg e]; exact hi
theorem BetaOk.alloc {N : Nat} {R : List Rg} {β : Beta} {w : World} (hb : BetaOk N R β w) (hN : N ≤ w.heap.size) (o : Obj) {id : Nat} (n : Nat) :
    BetaOk N R (β.set id { blk := w.heap.size, off := 0, len := n, ro := false }) (w.alloc o) := by
  refine ⟨fun i j r q hij hi hj => ?_, fun i r hi => ?_, fun i r hi => ?_, fun i r ks l hi hs => ?_⟩
  · unfold Beta.set at hi hj
    by_cases ei : i = id
    · rw [if_pos ei] at hi
      by_cases ej : j = id
      · omega
      · rw [if_neg ej] at hj
        have := hb.place j q hj
        cases hi
        exact .inr (.inl (by simp only; omega))
    · rw [if_neg ei] at hi
      by_cases ej : j = id
      · rw [if_pos ej] at hj
        have := hb.place i r hi
        cases hj
        exact .inr (.inl (by simp only; omega))
      · rw [if_neg ej] at hj
        exact hb.apart i j r q hij hi hj
  · unfold Beta.set at hi
    by_cases ei : i = id
    · rw [if_pos ei] at hi; cases hi; simp
    · rw [if_neg ei] at hi; have := hb.place i r hi; simp; omega
  · unfold Beta.set at hi
    by_cases ei : i = id
    · rw [if_pos ei] at hi; cases hi; exact .inr (.inl hN)
    · rw [if_neg ei] at hi; exact hb.may i r hi
  · unfold Beta.set at hi
    by_cases ei : i = id
    · rw [if_pos ei] at hi; cases hi; cases hs
    · rw [if_neg ei] at hi
      obtain ⟨h1, h2, h3⟩ := hb.sq i r ks l hi hs
      refine ⟨h1, h2, fun j n hj => ?_⟩
      obtain ⟨ck, v, g1, g2, g3⟩ := h3 j n hj
      exact ⟨ck, v, g1, ((Keep.alloc [] w o).cell _ (hb.place i r hi) (fun r hr => by cases hr)).trans g2, g3⟩
theorem BetaOk.keep {N : Nat} {R : List Rg} {β : Beta} {w w' : World} (hb : BetaOk N R β w) {W : List Rg} (hW : ∀ r, r ∈ W → ∃ id, β id = some r ∧ r.ro = false) (h : Keep W w w') : BetaOk N R β w' := by
  refine ⟨hb.apart, fun i r hi => by have := hb.place i r hi; have := h.size; omega, hb.may, fun i r ks l hi hs => ?_⟩
  obtain ⟨h1, h2, h3⟩ := hb.sq i r ks l hi hs
  refine ⟨h1, h2, fun j n hj => ?_⟩
  obtain ⟨ck, v, g1, g2, g3⟩ := h3 j n hj
  refine ⟨ck, v, g1, (h.cell _ (hb.place i r hi) fun q hq hin => ?_).trans g2, g3⟩
  obtain ⟨id, hid, hro⟩ := hW q hq
  have hne : i ≠ id := fun e => by
    subst e
    rw [hi] at hid
    cases hid
    rw [h1] at hro
    cases hro
  have hlt := (List.getElem?_eq_some_iff.1 hj).1
  rcases hb.apart i id r q hne hi hid with ha | ha
  · rw [hro] at ha; cases ha.2
  · unfold inRg at hin
    unfold Rg.apart at ha
    simp only at hin
    omega

/-- One operation's step: the addresses grow, stretches outside 'ids' are left alone. -/
structure Step (N : Nat) (R : List Rg) (β : Beta) (w : World) (ids : List Nat) (lo hi : Nat) (β' : Beta) (w' : World) : Prop where
  ext : Ext β β'
  bo : BetaOk N R β' w'
  kp : ∃ W, (∀ r, r ∈ W → ∃ id, id ∈ ids ∧ β id = some r ∧ r.ro = false ∧ ∃ j v, w.cell? ⟨r.blk, j, none⟩ = some v) ∧ Keep W w w'
  dom : ∀ i, (i < lo ∨ hi ≤ i) → β' i = β i

theorem Step.refl {N : Nat} {R : List Rg} {β : Beta} {w : World} (hb : BetaOk N R β w) (ids : List Nat) (lo hi : Nat) : Step N R β w ids lo hi β w :=
  ⟨Ext.refl β, hb, ⟨[], by simp, Keep.refl _ _⟩, fun _ _ => rfl⟩
end Go.Proofs.YtalnndmnnffnmaaGreat.Sx
/-! ## SxC -/
set_option linter.unusedVariables false
set_option linter.unusedSimpArgs false
namespace Go.Proofs.YtalnndmnnffnmaaGreat.Sx
open Go

theorem C.mt_oneCell {β : Beta} {ρ : Env} {c : C} {v : Value} (h : c.mt β ρ v) : oneCell v = true := by
  cases c with
  | int k a => rw [h.1]; rfl
  | bool b => rw [show v = _ from h]; rfl
  | ptr l id off => obtain ⟨r, _, hv⟩ := h; rw [hv]; rfl
  | pix id off s len a k => obtain ⟨_, _, r, _, hv⟩ := h; rw [hv]; rfl
  | sli id off len cap => obtain ⟨r, _, hv⟩ := h; rw [hv]; rfl
  | slx id ks q len =>
    obtain ⟨_, _, h3⟩ := h
    rcases h3 with ⟨_, _, p, cap, hv⟩ | ⟨r, cap, l, _, _, _, _, _, hv⟩ <;> (rw [hv]; rfl)
  | pxq id ks q a k => obtain ⟨_, r, l, _, _, _, _, hv⟩ := h; rw [hv]; rfl
  | val u => rw [h.1]; exact h.2
  | junk => exact h
  | str q => obtain ⟨s, hv, _⟩ := h; rw [hv]; rfl
  | fn l d =>
    have h : fvMt β (pickF ρ l d) v := h
    unfold fvMt at h
    split at h
    · rw [h]; rfl
    · obtain ⟨vs, hv, _⟩ := h; rw [hv]; rfl
  | mp id => obtain ⟨r, _, hv⟩ := h; rw [hv]; rfl
theorem mtL_length {β : Beta} {ρ : Env} : ∀ {l : List C} {vs : List Value}, mtL β ρ l vs → l.length = vs.length
  | [], [], _ => rfl
  | _ :: _, _ :: _, ⟨_, h⟩ => by simp [mtL_length h]
theorem mtL_get {β : Beta} {ρ : Env} : ∀ {l : List C} {vs : List Value}, mtL β ρ l vs → ∀ (j : Nat) (c : C), l[j]? = some c → ∃ v, vs[j]? = some v ∧ c.mt β ρ v
  | [], [], _, j, c, h => by simp at h
  | d :: l, v :: vs, ⟨h1, h2⟩, j, c, h => by
    cases j with
    | zero => simp at h; subst h; exact ⟨v, by simp, h1⟩
    | succ j => simp at h; simpa using mtL_get h2 j c h
theorem mtL_of_get {β : Beta} {ρ : Env} : ∀ {l : List C} {vs : List Value}, l.length = vs.length → (∀ (j : Nat) (c : C) (v : Value), l[j]? = some c → vs[j]? = some v → c.mt β ρ v) → mtL β ρ l vs
  | [], [], _, _ => trivial
  | d :: l, v :: vs, hl, h => ⟨h 0 d v (by simp) (by simp), mtL_of_get (by simpa using hl) fun j c u hc hu => h (j + 1) c u (by simpa using hc) (by simpa using hu)⟩
theorem mtL_cells {β : Beta} {ρ : Env} {agg : Bool} {l : List C} {v : Value} (h : mt1 β ρ agg l v) : mtL β ρ l v.cells.toList := by
  unfold mt1 at h
  cases agg
  · obtain ⟨c, rfl, hc⟩ := h
    have := C.mt_oneCell hc
    cases v <;> first | exact ⟨hc, trivial⟩ | (simp [oneCell] at this)
  · obtain ⟨vs, rfl, hc⟩ := h
    exact hc

/-! ### What stands as a known value -/
def inR (k : IntKind) (n : Int) : Bool := decide (k.min ≤ n) && decide (n ≤ k.max)
def ofC (v : Value) : C :=
  match v with
  | .int k n => if inR k n then .int k (.c n) else .val v
  | .bool b => .bool (.c b)
  | v => .val v
theorem ofC_mt {β : Beta} {ρ : Env} {v : Value} (h : oneCell v = true) : (ofC v).mt β ρ v := by
  unfold ofC
  split
  · split
    · rename_i h1; unfold inR at h1; simp at h1; exact ⟨rfl, h1⟩
    · exact ⟨rfl, h⟩
  · rfl
  · exact ⟨rfl, h⟩
def ofV (v : Value) : S :=
  match v with
  | .agg cs => if cs.toList.all oneCell then .one true (cs.toList.map ofC) else .any
  | .tuple _ => .any
  | v => .one false [ofC v]
theorem mtL_ofC {β : Beta} {ρ : Env} : ∀ {l : List Value}, l.all oneCell = true → mtL β ρ (l.map ofC) l
  | [], _ => trivial
  | v :: l, h => by simp at h; exact ⟨ofC_mt h.1, mtL_ofC (by simpa using h.2)⟩
theorem ofV_mt {β : Beta} {ρ : Env} (v : Value) : (ofV v).mt β ρ v := by
  unfold ofV
  split
  · split
    · rename_i h; exact ⟨_, rfl, mtL_ofC h⟩
    · trivial
  · trivial
  · rename_i h1 h2; exact ⟨_, rfl, ofC_mt (by cases v <;> first | rfl | exact absurd rfl (h1 _) | exact absurd rfl (h2 _))⟩

/-! ### Two as one -/
def vEq : Value → Value → Bool
  | .pointer none, .pointer none | .nilIface, .nilIface | .nilFunc, .nilFunc | .map none, .map none => true
  | .slice none a b, .slice none c d => a == c && b == d
  | .string s, .string t => s.data.toList == t.data.toList
  | _, _ => false
theorem vEq_sound {x y : Value} (h : vEq x y = true) : x = y := by
  unfold vEq at h
  split at h <;> try rfl
  · simp at h; obtain ⟨rfl, rfl⟩ := h; rfl
  · rename_i s t
    simp only [beq_iff_eq] at h
    have : s.data = t.data := Array.toList_inj.1 h
    cases s; cases t; simp_all
  · cases h

def ckEq : CK → CK → Bool
  | .int k, .int l => k == l
  | .bool, .bool => true
  | .pt a b, .pt c d => a == c && b == d
  | .str, .str => true
  | _, _ => false
def cksEq : List CK → List CK → Bool
  | [], [] => true
  | x :: l, y :: m => ckEq x y && cksEq l m
  | _, _ => false
theorem ckEq_sound {x y : CK} (h : ckEq x y = true) : x = y := by
  cases x <;> cases y <;> simp_all [ckEq]
theorem cksEq_sound : ∀ {l m : List CK}, cksEq l m = true → l = m
  | [], [], _ => rfl
  | x :: l, y :: m, h => by
    simp only [cksEq, Bool.and_eq_true] at h
    rw [ckEq_sound h.1, cksEq_sound h.2]
  | [], _ :: _, h => by simp [cksEq] at h
  | _ :: _, [], h => by simp [cksEq] at h
/-- A cell, as a string's number. -/
def asStr : C → Option A
  | .str q => some q
  | .val (.string s) => if inR .i64 s.size then some (.c (encS s)) else none
  | _ => none
theorem inR_spec' {k : IntKind} {n : Int} (h : inR k n = true) : InR k n := by
  unfold inR at h; simp at h; exact h
theorem asStr_mt {β : Beta} {ρ : Env} {c : C} {q : A} (h : asStr c = some q) {v : Value} (hm : c.mt β ρ v) : ∃ s : ByteArray, v = .string s ∧ q.d ρ = encS s ∧ InR .i64 s.size := by
  unfold asStr at h
  split at h
  · simp only [Option.some.injEq] at h
    subst h
    exact hm
  · split at h
    · rename_i s hs
      simp only [Option.some.injEq] at h
      subst h
      exact ⟨s, hm.1, rfl, inR_spec' hs⟩
    · cases h
  · cases h
/-- A cell, as a function's value. -/
def asFn : C → Option (List (B × FV) × FV)
  | .fn l d => some (l, d)
  | .val .nilFunc => some ([], none)
  | .val (.func (.func f) x y) => if x.toList.isEmpty && y.toList.isEmpty then some ([], some (f, [])) else none
  | _ => none
theorem asFn_mt {β : Beta} {ρ : Env} {c : C} {p : List (B × FV) × FV} (h : asFn c = some p) {v : Value} (hm : c.mt β ρ v) : fvMt β (pickF ρ p.1 p.2) v := by
  unfold asFn at h
  split at h
  · simp only [Option.some.injEq] at h
    subst h
    exact hm
  · simp only [Option.some.injEq] at h
    subst h
    exact hm.1
  · split at h
    · rename_i f x y hc
      simp only [Bool.and_eq_true, List.isEmpty_iff, Array.toList_eq_nil_iff] at hc
      obtain ⟨rfl, rfl⟩ := hc
      simp only [Option.some.injEq] at h
      subst h
      exact ⟨[], hm.1, trivial⟩
    · cases h
  · cases h
def andFs (b : B) : List (B × FV) → M (List (B × FV))
  | [] => pure []
  | (c, f) :: l => do
    let d ← mkAnd b c
    let r ← andFs b l
    pure ((d, f) :: r)
theorem andFs_snd {Φ : Funs} {ρ : Env} (b : B) (m : List (B × FV)) (d e : FV) : ∀ (l : List (B × FV)), Snd Φ ρ (andFs b l) (fun r => pickF ρ (r ++ (b, d) :: m) e = if b.d ρ then pickF ρ l d else pickF ρ m e)
  | [] => by
    refine Snd.pure ?_
    simp only [List.nil_append, pickF]
  | (c, f) :: l => by
    unfold andFs
    refine Snd.bind (mkAnd_snd b c) fun x hx => Snd.bind (andFs_snd b m d e l) fun r hr => Snd.pure ?_
    simp only [List.cons_append, pickF, hr, hx]
    cases hb : b.d ρ <;> cases hc : c.d ρ <;> simp [pickF, hb, hc]
def muxF (b : B) (p q : List (B × FV) × FV) : M C :=
  if p.1.isEmpty && q.1.isEmpty && p.2 == q.2 then pure (.fn [] p.2) else do
    let r ← andFs b p.1
    pure (.fn (r ++ (b, p.2) :: q.1) q.2)
theorem muxF_snd {Φ : Funs} {ρ : Env} (b : B) (p q : List (B × FV) × FV) : Snd Φ ρ (muxF b p q) (fun z => ∀ β v, (if b.d ρ then fvMt β (pickF ρ p.1 p.2) v else fvMt β (pickF ρ q.1 q.2) v) → z.mt β ρ v) := by
  unfold muxF
  split
  · rename_i h
    simp only [Bool.and_eq_true, List.isEmpty_iff, beq_iff_eq] at h
    obtain ⟨⟨h1, h2⟩, h3⟩ := h
    refine Snd.pure fun β v h => ?_
    rw [h1, h2, ← h3] at h
    show fvMt β (pickF ρ [] p.2) v
    split at h <;> exact h
  · refine Snd.bind (andFs_snd b q.1 p.2 q.2 p.1) fun r hr => Snd.pure fun β v h => ?_
    show fvMt β (pickF ρ (r ++ (b, p.2) :: q.1) q.2) v
    rw [hr]
    split at h <;> simp_all
/-- Two of other sorts. -/
def muxO (b : B) (x y : C) : M C :=
  match asStr x, asStr y with
  | some p, some q => do pure (.str (← mkIteI b p q))
  | _, _ => match asFn x, asFn y with
    | some p, some q => muxF b p q
    | _, _ => match x, y with
      | .mp i, .mp j => if i == j then pure (.mp i) else pure .junk
      | _, _ => pure .junk
theorem muxO_snd {Φ : Funs} {ρ : Env} (b : B) (x y : C) : Snd Φ ρ (muxO b x y) (fun z => ∀ β v, (if b.d ρ then x.mt β ρ v else y.mt β ρ v) → z.mt β ρ v) := by
  unfold muxO
  split
  · rename_i p q hp hq
    refine Snd.bind (mkIteI_snd b p q) fun z hz => Snd.pure fun β v h => ?_
    show ∃ s : ByteArray, v = .string s ∧ z.d ρ = encS s ∧ InR .i64 s.size
    rw [hz]
    split at h
    · rename_i hb; simp only [hb, if_true]; exact asStr_mt hp h
    · rename_i hb; simp only [hb]; exact asStr_mt hq h
  · split
    · rename_i p q hp hq
      refine (muxF_snd b p q).mono fun z hz β v h => hz β v ?_
      split at h
      · rename_i hb; rw [if_pos hb]; exact asFn_mt hp h
      · rename_i hb; rw [if_neg hb]; exact asFn_mt hq h
    · split
      · split
        · rename_i i j h
          simp only [beq_iff_eq] at h
          subst h
          exact Snd.pure fun β v h => by split at h <;> exact h
        · exact Snd.pure fun β v h => by split at h <;> exact C.mt_oneCell h
      · exact Snd.pure fun β v h => by split at h <;> exact C.mt_oneCell h
def muxC (b : B) (x y : C) : M C :=
  match x, y with
  | .slx i ks q l, .slx i' ks' q' l' => if i == i' && cksEq ks ks' && q.eq q' && l.eq l' then pure (.slx i ks q l) else pure .junk
  | .int k a, .int l c => if k == l then do pure (.int k (← mkIteI b a c)) else pure .junk
  | .bool a, .bool c => do pure (.bool (← mkIteB b a c))
  | .ptr [] i o, .ptr l i' o' => if l.isEmpty && i == i' && o == o' then pure (.ptr [] i o) else pure (.ptr ((b, i, o) :: l) i' o')
  | .val u, .val v => if vEq u v then pure (.val u) else muxO b (.val u) (.val v)
  | .sli i o l c, .sli i' o' l' c' => if i == i' && o == o' && l == l' && c == c' then pure (.sli i o l c) else pure .junk
  | x, y => muxO b x y
def muxL (b : B) : List C → List C → M (List C)
  | [], [] => pure []
  | x :: xs, y :: ys => do
    let z ← muxC b x y
    let zs ← muxL b xs ys
    pure (z :: zs)
  | _, _ => M.fail
section
variable {Φ : Funs} {ρ : Env}
theorem muxC_snd (b : B) (x y : C) : Snd Φ ρ (muxC b x y) (fun z => ∀ β v, (if b.d ρ then x.mt β ρ v else y.mt β ρ v) → z.mt β ρ v) := by
  unfold muxC
  split
  · split
    · rename_i h
      simp only [Bool.and_eq_true, beq_iff_eq] at h
      obtain ⟨⟨⟨rfl, h1⟩, h2⟩, h3⟩ := h
      rw [cksEq_sound h1, A.eq_sound h2, A.eq_sound h3]
      exact Snd.pure fun β v h => by split at h <;> exact h
    · refine Snd.pure fun β v h => ?_
      split at h <;> exact C.mt_oneCell h
  · split
    · rename_i k a l c h
      simp only [beq_iff_eq] at h
      subst h
      refine Snd.bind (mkIteI_snd b a c) fun z hz => Snd.pure fun β v h => ?_
      show v = .int _ (z.d ρ) ∧ InR _ (z.d ρ)
      rw [hz]
      split at h <;> simp_all [C.mt]
    · refine Snd.pure fun β v h => ?_
      split at h <;> exact C.mt_oneCell h
  · rename_i a c
    refine Snd.bind (mkIteB_snd b a c) fun z hz => Snd.pure fun β v h => ?_
    show v = .bool (z.d ρ)
    rw [hz]
    split at h <;> simp_all [C.mt]
  · split
    · rename_i h
      simp only [Bool.and_eq_true, beq_iff_eq, List.isEmpty_iff] at h
      obtain ⟨⟨rfl, rfl⟩, rfl⟩ := h
      exact Snd.pure fun β v h => by split at h <;> exact h
    · refine Snd.pure fun β v h => ?_
      unfold C.mt pick
      split at h
      · rename_i hb; simp only [hb, if_true]; exact h
      · rename_i hb; simp only [hb]; exact h
  · split
    · rename_i h
      rw [vEq_sound h]
      exact Snd.pure fun β v h => by split at h <;> exact h
    · exact muxO_snd b _ _
  · split
    · rename_i h
      simp only [Bool.and_eq_true, beq_iff_eq] at h
      obtain ⟨⟨⟨rfl, rfl⟩, rfl⟩, rfl⟩ := h
      exact Snd.pure fun β v h => by split at h <;> exact h
    · refine Snd.pure fun β v h => ?_
      split at h <;> exact C.mt_oneCell h
  · exact muxO_snd b _ _
theorem muxL_snd (b : B) : ∀ (xs ys : List C), Snd Φ ρ (muxL b xs ys) (fun zs => zs.length = xs.length ∧ xs.length = ys.length ∧ (∀ β vs, (if b.d ρ then mtL β ρ xs vs else mtL β ρ ys vs) → mtL β ρ zs vs) ∧
    ∀ β w k o, (if b.d ρ then cellsAt β ρ w k o xs else cellsAt β ρ w k o ys) → cellsAt β ρ w k o zs)
  | [], [] => Snd.pure ⟨rfl, rfl, fun β vs h => by simpa using h, fun _ _ _ _ h => by simpa using h⟩
  | x :: xs, y :: ys => by
    unfold muxL
    refine Snd.bind (muxC_snd b x y) fun z hz => Snd.bind (muxL_snd b xs ys) fun zs hzs => Snd.pure ?_
    obtain ⟨h1, h2, h3, h4⟩ := hzs
    refine ⟨by simp [h1], by simp [h2], fun β vs h => ?_, fun β w k o h => ?_⟩
    · cases vs with
      | nil => split at h <;> exact h.elim
      | cons v vs =>
        refine ⟨hz β v ?_, h3 β vs ?_⟩
        · split <;> simp_all [mtL]
        · split <;> simp_all [mtL]
    · have hc : (if b.d ρ then ∃ v, w.cell? ⟨k, o, none⟩ = some v ∧ x.mt β ρ v else ∃ v, w.cell? ⟨k, o, none⟩ = some v ∧ y.mt β ρ v) := by
        split <;> simp_all [cellsAt]
      refine ⟨?_, h4 β w k (o + 1) (by split <;> simp_all [cellsAt])⟩
      split at hc
      · rename_i hb; obtain ⟨v, hv, hm⟩ := hc; exact ⟨v, hv, hz β v (by rw [if_pos hb]; exact hm)⟩
      · rename_i hb; obtain ⟨v, hv, hm⟩ := hc; exact ⟨v, hv, hz β v (by rw [if_neg hb]; exact hm)⟩
  | [], _ :: _ => Snd.fail
  | _ :: _, [] => Snd.fail
end
/-- Two values of one shape. -/
def mux1 (b : B) (x y : Bool × List C) : M (Option (Bool × List C)) :=
  if x.1 == y.1 && x.2.length == y.2.length then do pure (some (x.1, ← muxL b x.2 y.2)) else pure none
def muxT (b : B) : List (Bool × List C) → List (Bool × List C) → M (Option (List (Bool × List C)))
  | [], [] => pure (some [])
  | x :: l, y :: m => do
    let z ← mux1 b x y
    let r ← muxT b l m
    pure (match z, r with
      | some z, some r => some (z :: r)
      | _, _ => none)
  | _, _ => pure none
def muxS (b : B) (x y : S) : M S :=
  match x, y with
  | .one p l, .one q m => do
    let z ← mux1 b (p, l) (q, m)
    pure (match z with
      | some z => .one z.1 z.2
      | none => .any)
  | .tup l, .tup m => do
    let z ← muxT b l m
    pure (match z with
      | some z => .tup z
      | none => .any)
  | _, _ => pure .any
theorem mux1_snd {Φ : Funs} {ρ : Env} (b : B) (x y : Bool × List C) : Snd Φ ρ (mux1 b x y) (fun z => ∀ r, z = some r → ∀ β v, (if b.d ρ then mt1 β ρ x.1 x.2 v else mt1 β ρ y.1 y.2 v) → mt1 β ρ r.1 r.2 v) := by
  obtain ⟨p, l⟩ := x
  obtain ⟨q, m⟩ := y
  unfold mux1
  split
  · rename_i h
    simp only [Bool.and_eq_true, beq_iff_eq] at h
    obtain ⟨rfl, _⟩ := h
    refine Snd.bind (muxL_snd b l m) fun z hz => Snd.pure fun r hr β v h => ?_
    cases hr
    obtain ⟨h1, h2, h3, _⟩ := hz
    simp only at h ⊢
    unfold mt1 at *
    cases p
    · simp only [Bool.false_eq_true, if_false] at *
      have hc : ∃ c, (if b.d ρ then l else m) = [c] ∧ c.mt β ρ v := by split at h <;> simp_all
      obtain ⟨c, hc1, hc2⟩ := hc
      have hlen : z.length = 1 := by
        split at hc1
        · rw [h1, hc1]; rfl
        · rw [h1, h2, hc1]; rfl
      match z, hlen, h3 with
      | [d], _, h3 =>
        have := h3 β [v] (by split at hc1 <;> (rename_i hb; simp only [hb]; simp only [hc1]; first | exact ⟨hc2, trivial⟩ | (rw [if_neg (by simp)]; exact ⟨hc2, trivial⟩)))
        exact ⟨d, rfl, this.1⟩
    · simp only [if_true] at *
      have hc : ∃ vs, v = .agg vs ∧ (if b.d ρ then mtL β ρ l vs.toList else mtL β ρ m vs.toList) := by split at h <;> simp_all
      obtain ⟨vs, hv, hm⟩ := hc
      exact ⟨vs, hv, h3 β _ hm⟩
  · exact Snd.pure fun r hr => by cases hr
theorem muxT_snd {Φ : Funs} {ρ : Env} (b : B) : ∀ (l m : List (Bool × List C)), Snd Φ ρ (muxT b l m) (fun z => ∀ r, z = some r → ∀ β vs, (if b.d ρ then mtT β ρ l vs else mtT β ρ m vs) → mtT β ρ r vs)
  | [], [] => Snd.pure fun r hr β vs h => by cases hr; simpa using h
  | x :: l, y :: m => by
    unfold muxT
    refine Snd.bind (mux1_snd b x y) fun z hz => Snd.bind (muxT_snd b l m) fun r hr => Snd.pure fun q hq β vs h => ?_
    cases z with
    | none => cases hq
    | some z =>
      cases r with
      | none => cases hq
      | some r =>
        cases hq
        cases vs with
        | nil => split at h <;> exact h.elim
        | cons v vs =>
          refine ⟨hz z rfl β v ?_, hr r rfl β vs ?_⟩
          · split at h
            · rename_i hb; rw [if_pos hb]; exact h.1
            · rename_i hb; rw [if_neg hb]; exact h.1
          · split at h
            · rename_i hb; rw [if_pos hb]; exact h.2
            · rename_i hb; rw [if_neg hb]; exact h.2
  | [], _ :: _ => Snd.pure fun r hr => by cases hr
  | _ :: _, [] => Snd.pure fun r hr => by cases hr
theorem muxS_snd {Φ : Funs} {ρ : Env} (b : B) (x y : S) : Snd Φ ρ (muxS b x y) (fun z => ∀ β v, (if b.d ρ then x.mt β ρ v else y.mt β ρ v) → z.mt β ρ v) := by
  unfold muxS
  split
  · rename_i p l q m
    refine Snd.bind (mux1_snd b (p, l) (q, m)) fun z hz => Snd.pure fun β v h => ?_
    cases z with
    | none => trivial
    | some z => exact hz z rfl β v h
  · rename_i l m
    refine Snd.bind (muxT_snd b l m) fun z hz => Snd.pure fun β v h => ?_
    cases z with
    | none => trivial
    | some z =>
      have hc : ∃ vs, v = .tuple vs ∧ (if b.d ρ then mtT β ρ l vs.toList else mtT β ρ m vs.toList) := by
        split at h
        · rename_i hb; obtain ⟨vs, h1, h2⟩ := h; exact ⟨vs, h1, by rw [if_pos hb]; exact h2⟩
        · rename_i hb; obtain ⟨vs, h1, h2⟩ := h; exact ⟨vs, h1, by rw [if_neg hb]; exact h2⟩
      obtain ⟨vs, h1, h2⟩ := hc
      exact ⟨vs, h1, hz z rfl β _ h2⟩
  · exact Snd.pure fun _ _ _ => trivial

/-! ### Cells read -/
def lift {α : Type} (o : Option α) : M α :=
  match o with
  | some x => pure x
  | none => M.fail
theorem lift_snd {α : Type} {Φ : Funs} {ρ : Env} (o : Option α) : Snd Φ ρ (lift o) (fun x => o = some x) := by
  cases o with
  | none => exact Snd.fail
  | some x => exact Snd.pure rfl

def ldC (Γ : Gd) (hp : Hp) (id off n : Nat) : Option (List C) :=
  match hp id with
  | some b => if Gd.sub b.g Γ && Nat.ble (off + n) b.cells.length then some ((b.cells.drop off).take n) else none
  | none => none
theorem ldC_spec {Γ : Gd} {hp : Hp} {ρ : Env} {β : Beta} {w : World} (hΓ : Gd.d ρ Γ = true) (hh : heapMt β ρ hp w) {id off n : Nat} {l : List C}
    (h : ldC Γ hp id off n = some l) : l.length = n ∧ ∃ r, β id = some r ∧ cellsAt β ρ w r.blk (r.off + off) l := by
  unfold ldC at h
  split at h
  · rename_i b hb
    split at h
    · rename_i hc
      simp only [Bool.and_eq_true, Nat.ble_eq] at hc
      simp only [Option.some.injEq] at h
      obtain ⟨r, hr, hl, _, hcs, _⟩ := hh id b hb (Gd.sub_d hc.1 hΓ)
      subst h
      refine ⟨by simp; omega, r, hr, ?_⟩
      rw [cellsAt_iff] at *
      intro j c hj
      rw [List.getElem?_take] at hj
      split at hj
      · rw [List.getElem?_drop] at hj
        have := hcs _ _ hj
        rwa [← Nat.add_assoc] at this
      · cases hj
    · cases h
  · cases h

def ldAlt (Γ : Gd) (hp : Hp) (n : Nat) : List (B × Nat × Nat) → Nat → Nat → M (List C)
  | [], id, off => lift (ldC Γ hp id off n)
  | (b, i, o) :: l, id, off => do
    let x ← lift (ldC Γ hp i o n)
    let y ← ldAlt Γ hp n l id off
    muxL b x y
theorem ldAlt_snd {Φ : Funs} {ρ : Env} {Γ : Gd} {hp : Hp} (hΓ : Gd.d ρ Γ = true) (n : Nat) (id off : Nat) : ∀ (l : List (B × Nat × Nat)),
    Snd Φ ρ (ldAlt Γ hp n l id off) (fun x => x.length = n ∧ ∀ β w, heapMt β ρ hp w → ∃ r, β (pick ρ l id off).1 = some r ∧ cellsAt β ρ w r.blk (r.off + (pick ρ l id off).2) x)
  | [] => by
    unfold ldAlt pick
    refine (lift_snd _).mono fun x hx => ?_
    refine ⟨?_, fun β w hh => (ldC_spec hΓ hh hx).2⟩
    unfold ldC at hx
    split at hx
    · split at hx
      · rename_i hc
        simp only [Bool.and_eq_true, Nat.ble_eq] at hc
        simp only [Option.some.injEq] at hx
        subst hx
        simp; omega
      · cases hx
    · cases hx
  | (b, i, o) :: l => by
    unfold ldAlt
    refine Snd.bind (lift_snd _) fun x hx => Snd.bind (ldAlt_snd hΓ n id off l) fun y hy => (muxL_snd b x y).mono fun z hz => ?_
    obtain ⟨h1, h2, h3, h4⟩ := hz
    obtain ⟨hy1, hy2⟩ := hy
    refine ⟨by omega, fun β w hh => ?_⟩
    unfold pick
    split
    · rename_i hb
      obtain ⟨_, r, hr, hc⟩ := ldC_spec hΓ hh hx
      exact ⟨r, hr, h4 _ _ _ _ (by rw [if_pos hb]; exact hc)⟩
    · rename_i hb
      obtain ⟨r, hr, hc⟩ := hy2 β w hh
      exact ⟨r, hr, h4 _ _ _ _ (by rw [if_neg hb]; exact hc)⟩

theorem cellsAt_values {β : Beta} {ρ : Env} {w : World} {b : Nat} : ∀ {o : Nat} {l : List C}, cellsAt β ρ w b o l →
    ∃ vs : List Value, vs.length = l.length ∧ mtL β ρ l vs ∧ ∀ j v, vs[j]? = some v → w.cell? ⟨b, o + j, none⟩ = some v
  | o, [], _ => ⟨[], rfl, trivial, by simp⟩
  | o, c :: cs, ⟨⟨v, hv, hm⟩, h⟩ => by
    obtain ⟨vs, h1, h2, h3⟩ := cellsAt_values h
    refine ⟨v :: vs, by simp [h1], ⟨hm, h2⟩, fun j u hj => ?_⟩
    cases j with
    | zero => simp at hj; subst hj; exact hv
    | succ j => simp at hj; have := h3 j u hj; rwa [show o + 1 + j = o + (j + 1) by omega] at this

theorem add_lit (b o n : Nat) : Addr.add ⟨b, o, none⟩ n = ⟨b, o + n, none⟩ := by
  unfold Addr.add
  split
  · subst_vars; rfl
  · rfl

/-- How a type's variable is read: its cells, and whether it is an aggregate. -/
def tyN (P : Program) (t : TypeId) : Option (Bool × Nat) :=
  match P.underlying t, P.info? t with
  | some (.struct _), some i => some (true, i.size)
  | some (.array _ _), some i => some (true, i.size)
  | some _, some i => if i.size == 1 then some (false, 1) else none
  | _, _ => none
theorem tyN_isAgg {P : Program} {t : TypeId} {agg : Bool} {n : Nat} (h : tyN P t = some (agg, n)) (w : World) : (isAgg t).run P w = .ok agg w ∧ (sizeOf t).run P w = .ok n w ∧ (agg = false → n = 1) := by
  unfold tyN at h
  split at h <;> try (simp at h; done)
  · rename_i f i h1 h2
    simp only [Option.some.injEq, Prod.mk.injEq] at h
    obtain ⟨rfl, rfl⟩ := h
    simp [isAgg, underlying, h1, sizeOf, typeInfo, h2]
  · rename_i f g i h1 h2
    simp only [Option.some.injEq, Prod.mk.injEq] at h
    obtain ⟨rfl, rfl⟩ := h
    simp [isAgg, underlying, h1, sizeOf, typeInfo, h2]
  · rename_i d i hns hna h1 h2
    split at h
    · rename_i h3
      simp only [beq_iff_eq] at h3
      simp only [Option.some.injEq, Prod.mk.injEq] at h
      obtain ⟨rfl, rfl⟩ := h
      refine ⟨?_, by simp [sizeOf, typeInfo, h2, h3], fun _ => rfl⟩
      cases d <;> first | (simp [isAgg, underlying, h1]; done) | (exfalso; simp_all; done)
    · cases h

theorem run_loadVar {P : Program} {t : TypeId} {agg : Bool} {n : Nat} (ht : tyN P t = some (agg, n)) {β : Beta} {ρ : Env} {w : World} {b o : Nat} {l : List C} (hl : l.length = n)
    (hc : cellsAt β ρ w b o l) : ∃ v, (loadVar t ⟨b, o, none⟩).run P w = .ok v w ∧ mt1 β ρ agg l v := by
  obtain ⟨h1, h2, h3⟩ := tyN_isAgg ht w
  obtain ⟨vs, hvl, hm, hv⟩ := cellsAt_values hc
  unfold loadVar
  rw [Sem.run_bind, h1]
  cases agg
  · have hn := h3 rfl
    simp only [Result.andThen_ok, Bool.false_eq_true, if_false]
    match l, vs, hvl, hm with
    | [c], [v], _, hm =>
      have := hv 0 v (by simp)
      simp only [Nat.add_zero] at this
      exact ⟨v, by simp [run_load, this], c, rfl, hm.1⟩
    | [], _, _, _ => simp at hl; omega
    | _ :: _ :: _, _, _, _ => simp at hl; omega
  · simp only [Result.andThen_ok, if_true, Sem.run_bind, h2]
    refine ⟨.agg vs.toArray, ?_, vs.toArray, rfl, by simpa using hm⟩
    have := run_loadCells_list (P := P) w ⟨b, o, none⟩ vs (fun j v hj => by rw [add_lit]; exact hv j v hj)
    rw [← hl, ← hvl, this]
    simp

/-! ### Cells written -/
theorem run_storeCells {P : Program} {b o : Nat} : ∀ (vs : List Value) (i : Nat) (w : World), (∀ v, v ∈ vs → oneCell v = true) →
    (∀ j, j < vs.length → (∃ u, w.cell? ⟨b, o + i + j, none⟩ = some u) ∧ w.frozen? ⟨b, o + i + j, none⟩ = false) →
    ∃ w', (storeCells ⟨b, o, none⟩ vs i).run P w = .ok () w' ∧ (∀ j v, vs[j]? = some v → w'.cell? ⟨b, o + i + j, none⟩ = some v) ∧
      Keep [{ blk := b, off := o + i, len := vs.length, ro := false }] w w' ∧ (∀ a : Addr, ¬ inRg { blk := b, off := o + i, len := vs.length, ro := false } a → w'.cell? a = w.cell? a)
  | [], i, w, _, _ => ⟨w, rfl, by simp, Keep.refl _ _, fun _ _ => rfl⟩
  | v :: vs, i, w, ho, hc => by
    obtain ⟨⟨u, hu⟩, hf⟩ := hc 0 (by simp)
    simp only [Nat.add_zero] at hu hf
    have hv : (Value.oneCell' v) = true := by
      have := ho v (by simp)
      cases v <;> first | rfl | (simp [oneCell] at this)
    have hs : (store (Addr.add ⟨b, o, none⟩ i) v).run P w = .ok () (w.setCell ⟨b, o + i, none⟩ v) := by
      rw [run_store P w _ v .plain hv, add_lit, hu]
      simp [hf]
    have hlt := World.block_lt_of_cell? w _ hu
    obtain ⟨w', h1, h2, h3, h4⟩ := run_storeCells vs (i + 1) (w.setCell ⟨b, o + i, none⟩ v) (fun x hx => ho x (by simp [hx])) (fun j hj => by
      obtain ⟨⟨u', hu'⟩, hf'⟩ := hc (j + 1) (by simp; omega)
      rw [show o + (i + 1) + j = o + i + (j + 1) by omega]
      refine ⟨⟨u', ?_⟩, ?_⟩
      · rw [World.cell?_setCell_other _ _ _ _ (by simp)]; exact hu'
      · rw [World.frozen?_setCell]; exact hf')
    refine ⟨w', ?_, fun j x hx => ?_, ?_, fun a ha => ?_⟩
    · unfold storeCells
      rw [Sem.run_bind, hs]
      exact h1
    · cases j with
      | zero =>
        simp at hx
        subst hx
        rw [Nat.add_zero, h4 _ (by unfold inRg; simp; omega)]
        exact World.cell?_setCell_same _ _ _ hu
      | succ j =>
        simp at hx
        have := h2 j x hx
        rwa [show o + (i + 1) + j = o + i + (j + 1) by omega] at this
    · have k1 : Keep [{ blk := b, off := o + i, len := (v :: vs).length, ro := false }] w (w.setCell ⟨b, o + i, none⟩ v) :=
        Keep.setCell v (List.mem_singleton.2 rfl) (by unfold inRg; simp)
      refine k1.trans h3 fun r hr => ?_
      simp only [List.mem_singleton] at hr
      subst hr
      exact .inr ⟨_, List.mem_singleton.2 rfl, rfl, by simp, by simp; omega⟩
    · rw [h4 a (fun h => ha (by unfold inRg at *; simp at *; omega))]
      exact World.cell?_setCell_other _ _ _ _ (fun e => ha (by subst e; unfold inRg; simp))
end Go.Proofs.YtalnndmnnffnmaaGreat.Sx
/-! ## SxD -/
set_option linter.unusedVariables false
set_option linter.unusedSimpArgs false
namespace Go.Proofs.YtalnndmnnffnmaaGreat.Sx
open Go

structure Res where
  s : S
  w : List (Nat × Blk)

/-- An operation, for whatever follows it. -/
def OpG (P : Program) (o : Oper) (a : Act) (w : World) (Post : Value → World → Prop) : Prop :=
  ∀ (next : Act → World → Prop) (Q : Exit → Act → World → Prop), (∀ v w', Post v w' → next (a.put o.dst v) w') → o.wp P a w next Q
section
variable {P : Program} {o : Oper} {a : Act} {w w' : World} {Post : Value → World → Prop}
theorem OpG.value {v : Value} (h : (execOp a.eval o).run P w = .ok (.value v) w') (hp : Post v w') : OpG P o a w Post := by
  intro next Q hn
  unfold Oper.wp
  rw [h]
  exact hn v w' hp
theorem OpG.skip (h : (execOp a.eval o).run P w = .ok .skip w') (hp : Post undef w') : OpG P o a w Post := by
  intro next Q hn
  unfold Oper.wp
  rw [h]
  exact hn undef w' hp
theorem OpG.calls {f : FuncId} {args : Array Value} (h : (execOp a.eval o).run P w = .ok (.enter f args) w')
    (hc : Calls P f args w' fun e w'' => ∃ v, e = .returned v ∧ Post v w'') : OpG P o a w Post := by
  intro next Q hn
  unfold Oper.wp
  rw [h]
  refine Calls.mono hc fun e w'' he => ?_
  obtain ⟨v, rfl, hp⟩ := he
  exact hn v w'' hp
theorem OpG.mono {Post' : Value → World → Prop} (h : OpG P o a w Post) (hp : ∀ v w', Post v w' → Post' v w') : OpG P o a w Post' :=
  fun next Q hn => h next Q fun v w' hv => hn v w' (hp v w' hv)
end

def RPost (N : Nat) (R : List Rg) (ρ : Env) (β : Beta) (w : World) (lo hi : Nat) (res : Res) (v : Value) (w' : World) : Prop :=
  ∃ β', Step N R β w (res.w.map (·.1)) lo hi β' w' ∧ res.s.mt β' ρ v ∧ ∀ p, p ∈ res.w → blkMt β' ρ w' p.1 p.2

/-- What the executor of one operation owes. -/
def LOk (P : Program) (Φ : Funs) (G : Beta → World → Prop) (Γ : Gd) (hp : Hp) (rv : Operand → SV) (o : Oper) (m : M Res) : Prop :=
  ∀ ρ c res c' out, m c = some (res, c', out) → Good Φ ρ out → Gd.d ρ Γ = true → ∀ (N : Nat) (R : List Rg) (β : Beta) (a : Act) (w : World),
    (∀ x, x ∈ o.op.operands → (rv x).mt β ρ (a.eval x)) → heapMt β ρ hp w → BetaOk N R β w → N ≤ w.heap.size → G β w →
    (∀ i, c.id ≤ i → i < c'.id → β i = none) → OpG P o a w (RPost N R ρ β w c.id c'.id res)

theorem LOk.fail {P : Program} {Φ : Funs} {G : Beta → World → Prop} {Γ : Gd} {hp : Hp} {rv : Operand → SV} {o : Oper} : LOk P Φ G Γ hp rv o M.fail :=
  fun _ _ _ _ _ h => by cases h

/-- Operations that yield a value and leave the world. -/
def Pure (P : Program) (Γ : Gd) (hp : Hp) (rv : Operand → SV) (o : Oper) (ρ : Env) (s : S) : Prop :=
  ∀ (β : Beta) (a : Act) (w : World), (∀ x, x ∈ o.op.operands → (rv x).mt β ρ (a.eval x)) → heapMt β ρ hp w → SqOk β w → ∃ v, (execOp a.eval o).run P w = .ok (.value v) w ∧ s.mt β ρ v
theorem LOk.of_pure {P : Program} {Φ : Funs} {G : Beta → World → Prop} {Γ : Gd} {hp : Hp} {rv : Operand → SV} {o : Oper} {m : M S}
    (h : ∀ ρ, Gd.d ρ Γ = true → Snd Φ ρ m (Pure P Γ hp rv o ρ)) : LOk P Φ G Γ hp rv o (do pure { s := ← m, w := [] }) := by
  intro ρ c res c' out he hg hΓ N R β a w hx hh hb hN hG hf
  have h1 : Snd Φ ρ (do pure { s := ← m, w := [] } : M Res) (fun r => r.w = [] ∧ Pure P Γ hp rv o ρ r.s) :=
    Snd.bind (h ρ hΓ) fun s hs => Snd.pure ⟨rfl, hs⟩
  obtain ⟨hw, hs⟩ := h1 c res c' out he hg
  obtain ⟨v, hv, hm⟩ := hs β a w hx hh hb.sq
  refine OpG.value hv ⟨β, Step.refl hb _ _ _, hm, ?_⟩
  rw [hw]
  simp

/-- A slot's content, under conditions that hold. -/
def rs (Γ : Gd) (x : SV) : S := if Gd.sub x.g Γ then x.s else .any
theorem rs_mt {Γ : Gd} {ρ : Env} (hΓ : Gd.d ρ Γ = true) {x : SV} {β : Beta} {v : Value} (h : x.mt β ρ v) : (rs Γ x).mt β ρ v := by
  unfold rs
  split
  · rename_i hs; exact h.1 (Gd.sub_d hs hΓ)
  · trivial

section ops
variable {P : Program} {Φ : Funs} {Γ : Gd} {hp : Hp} {rv : Operand → SV} {dst : Option Tmp} {ty : TypeId} {pos : String} {after : Array Edge} {guard : Option (Nat × Bool)} {ρ : Env}

/-! ### move, assign -/
theorem pure_move (hΓ : Gd.d ρ Γ = true) (x : Operand) : Snd Φ ρ (pure (rs Γ (rv x)) : M S) (Pure P Γ hp rv ⟨dst, .move x, ty, pos, after, guard⟩ ρ) :=
  Snd.pure fun β a w hx hh hq => ⟨_, rfl, rs_mt hΓ (hx x (by simp [Op.operands]))⟩
theorem pure_assign (hΓ : Gd.d ρ Γ = true) (x : Operand) : Snd Φ ρ (pure (rs Γ (rv x)) : M S) (Pure P Γ hp rv ⟨dst, .assign x, ty, pos, after, guard⟩ ρ) :=
  Snd.pure fun β a w hx hh hq => ⟨_, rfl, rs_mt hΓ (hx x (by simp [Op.operands]))⟩

/-! ### pick -/
def xPick (Γ : Gd) (c a b : SV) : M S :=
  match rs Γ c with
  | .one false [.bool k] => match k with
    | .c true => pure (rs Γ a)
    | .c false => pure (rs Γ b)
    | k => muxS k (rs (Γ ++ [(k, true)]) a) (rs (Γ ++ [(k, false)]) b)
  | _ => M.fail
theorem pure_pick (hΓ : Gd.d ρ Γ = true) (c x y : Operand) : Snd Φ ρ (xPick Γ (rv c) (rv x) (rv y)) (Pure P Γ hp rv ⟨dst, .pick c x y, ty, pos, after, guard⟩ ρ) := by
  unfold xPick
  split
  · rename_i k hk
    have key : ∀ β (a : Act), (rv c).mt β ρ (a.eval c) → a.eval c = .bool (k.d ρ) := fun β a h => by
      have := rs_mt hΓ h
      rw [hk] at this
      obtain ⟨d, hd, hm⟩ := this
      simp only [List.cons.injEq, and_true] at hd
      subst hd
      exact hm
    split
    · refine Snd.pure fun β a w hx hh hq => ⟨a.eval x, ?_, rs_mt hΓ (hx x (by simp [Op.operands]))⟩
      simp [execOp, asBool, key β a (hx c (by simp [Op.operands]))]
    · refine Snd.pure fun β a w hx hh hq => ⟨a.eval y, ?_, rs_mt hΓ (hx y (by simp [Op.operands]))⟩
      simp [execOp, asBool, key β a (hx c (by simp [Op.operands]))]
    · refine (muxS_snd k _ _).mono fun z hz => fun β a w hx hh hq => ⟨if k.d ρ then a.eval x else a.eval y, ?_, hz β _ ?_⟩
      · simp [execOp, asBool, key β a (hx c (by simp [Op.operands]))]
      · cases hk2 : k.d ρ
        · simp only [Bool.false_eq_true, if_false]
          exact rs_mt (by simp [hΓ, hk2]) (hx y (by simp [Op.operands]))
        · simp only [if_true]
          exact rs_mt (by simp [hΓ, hk2]) (hx x (by simp [Op.operands]))
  · exact Snd.fail

/-! ### Numbers, bools -/
theorem mt_int {β : Beta} {s : S} {k : IntKind} {a : A} {v : Value} (h : s = .one false [.int k a]) (hm : s.mt β ρ v) : v = .int k (a.d ρ) ∧ InR k (a.d ρ) := by
  subst h
  obtain ⟨d, hd, hm⟩ := hm
  simp only [List.cons.injEq, and_true] at hd
  subst hd
  exact hm
theorem mt_bool {β : Beta} {s : S} {b : B} {v : Value} (h : s = .one false [.bool b]) (hm : s.mt β ρ v) : v = .bool (b.d ρ) := by
  subst h
  obtain ⟨d, hd, hm⟩ := hm
  simp only [List.cons.injEq, and_true] at hd
  subst hd
  exact hm
theorem S.mt_i {β : Beta} {k : IntKind} {a : A} (h : InR k (a.d ρ)) : (S.one false [.int k a]).mt β ρ (.int k (a.d ρ)) := ⟨_, rfl, rfl, h⟩
theorem S.mt_b {β : Beta} {b : B} : (S.one false [.bool b]).mt β ρ (.bool (b.d ρ)) := ⟨_, rfl, rfl⟩

theorem wrap_inR (k : IntKind) (n : Int) : InR k (k.wrap n) := by
  unfold InR IntKind.min IntKind.max IntKind.wrap
  cases k <;> simp only [IntKind.signed, IntKind.bits] <;> (try split) <;> (try simp_all) <;> omega
theorem inR_i64 {n : Int} (h : InR .i64 n) : -9223372036854775808 ≤ n ∧ n ≤ 9223372036854775807 := by
  unfold InR IntKind.min IntKind.max at h
  simpa [IntKind.signed, IntKind.bits] using h
theorem tmod_inR {k : IntKind} {x y : Int} (hx : InR k x) : InR k (x.tmod y) := by
  unfold InR at *
  have h0 : k.min ≤ 0 ∧ 0 ≤ k.max := by cases k <;> decide
  have h1 : (x.tmod y).natAbs ≤ x.natAbs := by rw [Int.natAbs_tmod]; exact Nat.mod_le _ _
  rcases Int.le_total 0 x with h | h
  · have := Int.tmod_nonneg y h
    omega
  · have h2 : x.tmod y ≤ 0 := by
      have := Int.tmod_nonneg y (a := -x) (by omega)
      rw [Int.neg_tmod] at this
      omega
    omega
theorem fdiv_inR {k : IntKind} {x : Int} (n : Nat) (hx : InR k x) : InR k (x.fdiv (2 ^ n)) := by
  unfold InR at *
  have h0 : k.min ≤ 0 ∧ 0 ≤ k.max := by cases k <;> decide
  have hp : (0 : Int) < 2 ^ n := Int.pow_pos (by decide)
  rw [Int.fdiv_eq_ediv_of_nonneg _ (by omega)]
  have hp1 : (1 : Int) ≤ 2 ^ n := hp
  rcases Int.le_total 0 x with h | h
  · have h1 := Int.ediv_nonneg h (by omega : (0 : Int) ≤ 2 ^ n)
    have h2 : x / 2 ^ n ≤ x := Int.ediv_le_self _ h
    omega
  · have h1 : x / 2 ^ n ≤ 0 := by
      have := Int.ediv_le_ediv hp h
      simpa using this
    have h2 : x ≤ x / 2 ^ n := by
      rw [Int.le_ediv_iff_mul_le hp]
      have h3 := Int.mul_nonneg (show 0 ≤ -x by omega) (show (0 : Int) ≤ 2 ^ n - 1 by omega)
      rw [Int.mul_sub, Int.mul_one, Int.neg_mul] at h3
      omega
    omega

def arOp : BinOp → Bool
  | .add | .sub | .mul | .and | .or | .xor | .andNot => true
  | _ => false
def cmOp : BinOp → Bool
  | .eql | .neq | .lss | .leq | .gtr | .geq => true
  | _ => false
def shOp : BinOp → Bool
  | .shl | .shr => true
  | _ => false
def dvOp : BinOp → Bool
  | .quo | .rem => true
  | _ => false
theorem run_ar {op : BinOp} (h : arOp op = true) (k : IntKind) (x y : Int) (t : TypeId) (w : World) : (binOp op t (.int k x) (.int k y)).run P w = .ok (.int k (arI op k x y)) w := by
  cases op <;> first | (simp [arOp] at h; done) | (simp [binOp, Op.intArith, Op.intBits, arI])
theorem run_cm {op : BinOp} (h : cmOp op = true) (k : IntKind) (x y : Int) (t : TypeId) (w : World) : (binOp op t (.int k x) (.int k y)).run P w = .ok (.bool (cmB op x y)) w := by
  cases op <;> first | (simp [cmOp] at h; done) | (simp [binOp, Op.intCmp, cmB])
theorem run_sh {op : BinOp} (h : shOp op = true) (k yk : IntKind) (x y : Int) (hy : 0 ≤ y) (t : TypeId) (w : World) : (binOp op t (.int k x) (.int yk y)).run P w = .ok (.int k (arI op k x y)) w := by
  have hy' : ¬ y < 0 := by omega
  cases op <;> first | (simp [shOp] at h; done) | (simp [binOp, Op.shift, arI, hy'])
theorem run_dv {op : BinOp} (h : dvOp op = true) (k : IntKind) (x y : Int) (hy : y ≠ 0) (t : TypeId) (w : World) : (binOp op t (.int k x) (.int k y)).run P w = .ok (.int k (arI op k x y)) w := by
  cases op <;> first | (simp [dvOp] at h; done) | (simp [binOp, Op.intDiv, arI, hy])
theorem arI_inR {op : BinOp} (h : arOp op = true) (k : IntKind) (x y : Int) : InR k (arI op k x y) := by
  cases op <;> first | (simp [arOp] at h; done) | exact wrap_inR _ _
theorem eqGuard_int (op : BinOp) (t : TypeId) (x y : Operand) (k : IntKind) (n : Int) (v : Value) : eqGuard op t x y (.int k n) v = pure () := by cases op <;> rfl
theorem eqGuard_bool (op : BinOp) (t : TypeId) (x y : Operand) (b : Bool) (v : Value) : eqGuard op t x y (.bool b) v = pure () := by cases op <;> rfl

/-- The types of bools: '==' on them. -/
def isBoolT (P : Program) (t : TypeId) : Bool := match P.underlying t with | some .bool => true | _ => false
theorem run_eqBool {t : TypeId} (h : isBoolT P t = true) (x y : Bool) (w : World) : (Op.equal t (.bool x) (.bool y)).run P w = .ok (x == y) w := by
  unfold isBoolT at h
  split at h
  · rename_i hu
    unfold Op.equal Op.maxDepth
    rw [show (10000 : Nat) = 9999 + 1 from rfl, Op.equalIn]
    simp [underlying, hu]
  · cases h

def xBin (P : Program) (op : BinOp) (t : TypeId) (x y : S) : M S :=
  match x, y with
  | .one false [.int k a], .one false [.int l b] =>
    if shOp op then do
      let n ← mkCm .geq b (.c 0)
      oblige n
      pure (.one false [.int k (← mkAr op k a b)])
    else if k == l then
      if arOp op then do pure (.one false [.int k (← mkAr op k a b)])
      else if cmOp op then do pure (.one false [.bool (← mkCm op a b)])
      else if dvOp op then do
        let n ← mkCm .neq b (.c 0)
        oblige n
        pure (.one false [.int k (← mkAr op k a b)])
      else M.fail
    else M.fail
  | .one false [.bool a], .one false [.bool b] =>
    if isBoolT P t then match op with
      | .eql => do pure (.one false [.bool (← mkEqb a b)])
      | .neq => do
        let e ← mkEqb a b
        pure (.one false [.bool (← mkNot e)])
      | _ => M.fail
    else M.fail
  | _, _ => M.fail
theorem shr_inR {op : BinOp} (h : shOp op = true) {k : IntKind} {x : Int} (y : Int) (hx : InR k x) : InR k (arI op k x y) := by
  cases op <;> first | (simp [shOp] at h; done) | exact wrap_inR _ _ | exact fdiv_inR _ hx
theorem dv_inR {op : BinOp} (h : dvOp op = true) {k : IntKind} {x : Int} (y : Int) (hx : InR k x) : InR k (arI op k x y) := by
  cases op <;> first | (simp [dvOp] at h; done) | exact wrap_inR _ _ | exact tmod_inR hx
theorem pure_bin (hΓ : Gd.d ρ Γ = true) (op : BinOp) (t t' : TypeId) (x y : Operand) :
    Snd Φ ρ (xBin P op t (rs Γ (rv x)) (rs Γ (rv y))) (Pure P Γ hp rv ⟨dst, .binOp op t x y t', ty, pos, after, guard⟩ ρ) := by
  unfold xBin
  split
  · rename_i k a l b h1 h2
    have vx : ∀ β (ac : Act), (rv x).mt β ρ (ac.eval x) → ac.eval x = .int k (a.d ρ) ∧ InR k (a.d ρ) := fun β ac h => mt_int h1 (rs_mt hΓ h)
    have vy : ∀ β (ac : Act), (rv y).mt β ρ (ac.eval y) → ac.eval y = .int l (b.d ρ) ∧ InR l (b.d ρ) := fun β ac h => mt_int h2 (rs_mt hΓ h)
    split
    · rename_i ho
      refine Snd.bind (mkCm_snd _ _ _) fun n hn => Snd.bind (oblige_snd n) fun _ hn2 => Snd.bind (mkAr_snd op k a b) fun z hz => Snd.pure fun β ac w hx hh hq => ?_
      obtain ⟨ex, rx⟩ := vx β ac (hx x (by simp [Op.operands]))
      obtain ⟨ey, ry⟩ := vy β ac (hx y (by simp [Op.operands]))
      have h0 : 0 ≤ b.d ρ := by rw [hn] at hn2; simpa [cmB] using hn2
      refine ⟨.int k (z.d ρ), ?_, S.mt_i (by rw [hz]; exact shr_inR ho _ rx)⟩
      simp [execOp, ex, ey, eqGuard_int, run_sh ho k l _ _ h0, hz]
    · split
      · rename_i hkl
        simp only [beq_iff_eq] at hkl
        subst hkl
        split
        · rename_i ho
          refine Snd.bind (mkAr_snd op k a b) fun z hz => Snd.pure fun β ac w hx hh hq => ?_
          obtain ⟨ex, rx⟩ := vx β ac (hx x (by simp [Op.operands]))
          obtain ⟨ey, ry⟩ := vy β ac (hx y (by simp [Op.operands]))
          refine ⟨.int k (z.d ρ), ?_, S.mt_i (by rw [hz]; exact arI_inR ho _ _ _)⟩
          simp [execOp, ex, ey, eqGuard_int, run_ar ho, hz]
        · split
          · rename_i ho
            refine Snd.bind (mkCm_snd op a b) fun z hz => Snd.pure fun β ac w hx hh hq => ?_
            obtain ⟨ex, rx⟩ := vx β ac (hx x (by simp [Op.operands]))
            obtain ⟨ey, ry⟩ := vy β ac (hx y (by simp [Op.operands]))
            refine ⟨.bool (z.d ρ), ?_, S.mt_b⟩
            simp [execOp, ex, ey, eqGuard_int, run_cm ho, hz]
          · split
            · rename_i ho
              refine Snd.bind (mkCm_snd _ _ _) fun n hn => Snd.bind (oblige_snd n) fun _ hn2 => Snd.bind (mkAr_snd op k a b) fun z hz => Snd.pure fun β ac w hx hh hq => ?_
              obtain ⟨ex, rx⟩ := vx β ac (hx x (by simp [Op.operands]))
              obtain ⟨ey, ry⟩ := vy β ac (hx y (by simp [Op.operands]))
              have h0 : b.d ρ ≠ 0 := by rw [hn] at hn2; simpa [cmB] using hn2
              refine ⟨.int k (z.d ρ), ?_, S.mt_i (by rw [hz]; exact dv_inR ho _ rx)⟩
              simp [execOp, ex, ey, eqGuard_int, run_dv ho k _ _ h0, hz]
            · exact Snd.fail
      · exact Snd.fail
  · rename_i a b h1 h2
    have vx : ∀ β (ac : Act), (rv x).mt β ρ (ac.eval x) → ac.eval x = .bool (a.d ρ) := fun β ac h => mt_bool h1 (rs_mt hΓ h)
    have vy : ∀ β (ac : Act), (rv y).mt β ρ (ac.eval y) → ac.eval y = .bool (b.d ρ) := fun β ac h => mt_bool h2 (rs_mt hΓ h)
    split
    · rename_i ht
      split
      · refine Snd.bind (mkEqb_snd a b) fun z hz => Snd.pure fun β ac w hx hh hq => ?_
        refine ⟨.bool (z.d ρ), ?_, S.mt_b⟩
        simp [execOp, vx β ac (hx x (by simp [Op.operands])), vy β ac (hx y (by simp [Op.operands])), eqGuard_bool, binOp, run_eqBool ht, hz]
      · refine Snd.bind (mkEqb_snd a b) fun z hz => Snd.bind (mkNot_snd z) fun u hu => Snd.pure fun β ac w hx hh hq => ?_
        refine ⟨.bool (u.d ρ), ?_, S.mt_b⟩
        simp [execOp, vx β ac (hx x (by simp [Op.operands])), vy β ac (hx y (by simp [Op.operands])), eqGuard_bool, binOp, run_eqBool ht, hz, hu]
      · exact Snd.fail
    · exact Snd.fail
  · exact Snd.fail

def xUn (op : UnOp) (x : S) : M S :=
  match op, x with
  | .not, .one false [.bool b] => do pure (.one false [.bool (← mkNot b)])
  | .neg, .one false [.int k a] => do pure (.one false [.int k (← mkAr .sub k (.c 0) a)])
  | .xor, .one false [.int k a] => do pure (.one false [.int k (← mkAr .xor k (.c (if k.signed then -1 else k.max)) a)])
  | _, _ => M.fail
theorem pure_un (hΓ : Gd.d ρ Γ = true) (op : UnOp) (t : TypeId) (x : Operand) :
    Snd Φ ρ (xUn op (rs Γ (rv x))) (Pure P Γ hp rv ⟨dst, .unOp op t x, ty, pos, after, guard⟩ ρ) := by
  unfold xUn
  split
  · rename_i b h1
    refine Snd.bind (mkNot_snd b) fun z hz => Snd.pure fun β ac w hx hh hq => ⟨.bool (z.d ρ), ?_, S.mt_b⟩
    simp [execOp, mt_bool h1 (rs_mt hΓ (hx x (by simp [Op.operands]))), Op.unary, hz]
  · rename_i k a h1
    refine Snd.bind (mkAr_snd _ _ _ _) fun z hz => Snd.pure fun β ac w hx hh hq => ⟨.int k (z.d ρ), ?_, S.mt_i (by rw [hz]; exact arI_inR rfl _ _ _)⟩
    simp [execOp, (mt_int h1 (rs_mt hΓ (hx x (by simp [Op.operands])))).1, Op.unary, Op.intArith, hz, arI]
  · rename_i k a h1
    refine Snd.bind (mkAr_snd _ _ _ _) fun z hz => Snd.pure fun β ac w hx hh hq => ⟨.int k (z.d ρ), ?_, S.mt_i (by rw [hz]; exact arI_inR rfl _ _ _)⟩
    simp [execOp, (mt_int h1 (rs_mt hΓ (hx x (by simp [Op.operands])))).1, Op.unary, Op.intBits, hz, arI]
  · exact Snd.fail

def intKindOf (P : Program) (t : TypeId) : Option IntKind := match P.underlying t with | some (.int k) => some k | _ => none
theorem intKindOf_spec {t : TypeId} {k : IntKind} (h : intKindOf P t = some k) : P.underlying t = some (.int k) := by
  unfold intKindOf at h
  split at h
  · rename_i hu; simp only [Option.some.injEq] at h; subst h; exact hu
  · cases h
def xConv (P : Program) (src dst : TypeId) (x : S) : M S :=
  match intKindOf P src, intKindOf P dst, x with
  | some _, some k, .one false [.int _ a] => do pure (.one false [.int k (← mkCv k a)])
  | _, _, _ => M.fail
theorem pure_conv (hΓ : Gd.d ρ Γ = true) (src d : TypeId) (x : Operand) :
    Snd Φ ρ (xConv P src d (rs Γ (rv x))) (Pure P Γ hp rv ⟨dst, .convert src d x, ty, pos, after, guard⟩ ρ) := by
  unfold xConv
  split
  · rename_i j k l a h1 h2 h3
    refine Snd.bind (mkCv_snd _ _) fun z hz => Snd.pure fun β ac w hx hh hq => ⟨.int k (z.d ρ), ?_, S.mt_i (by rw [hz]; exact wrap_inR _ _)⟩
    simp [execOp, (mt_int h3 (rs_mt hΓ (hx x (by simp [Op.operands])))).1, convert, underlying, intKindOf_spec h1, intKindOf_spec h2, Conv.intToInt, hz]
  · exact Snd.fail
end ops
end Go.Proofs.YtalnndmnnffnmaaGreat.Sx
/-! ## SxE -/
set_option linter.unusedVariables false
set_option linter.unusedSimpArgs false
namespace Go.Proofs.YtalnndmnnffnmaaGreat.Sx
open Go

section ops
variable {P : Program} {Φ : Funs} {Γ : Gd} {hp : Hp} {rv : Operand → SV} {dst : Option Tmp} {ty : TypeId} {pos : String} {after : Array Edge} {guard : Option (Nat × Bool)} {ρ : Env}

theorem mt_cell {β : Beta} {s : S} {c : C} {v : Value} (h : s = .one false [c]) (hm : s.mt β ρ v) : c.mt β ρ v := by
  subst h
  obtain ⟨d, hd, hm⟩ := hm
  simp only [List.cons.injEq, and_true] at hd
  subst hd
  exact hm
theorem mt_of_cell {β : Beta} {c : C} {v : Value} (h : c.mt β ρ v) : (S.one false [c]).mt β ρ v := ⟨c, rfl, h⟩

/-! ### Parts -/
def xPart (P : Program) (t : TypeId) (l : List C) (off : Nat) : Option S :=
  match tyN P t with
  | some (agg, n) => if Nat.ble (off + n) l.length then some (.one agg ((l.drop off).take n)) else none
  | none => none
theorem mtL_drop {β : Beta} : ∀ {l : List C} {vs : List Value} (k : Nat), mtL β ρ l vs → mtL β ρ (l.drop k) (vs.drop k)
  | _, _, 0, h => h
  | [], [], _ + 1, _ => trivial
  | _ :: _, _ :: _, k + 1, ⟨_, h⟩ => mtL_drop k h
theorem mtL_take {β : Beta} : ∀ {l : List C} {vs : List Value} (k : Nat), mtL β ρ l vs → mtL β ρ (l.take k) (vs.take k)
  | [], [], 0, _ => trivial
  | _ :: _, _ :: _, 0, _ => trivial
  | [], [], _ + 1, _ => trivial
  | _ :: _, _ :: _, k + 1, ⟨h1, h⟩ => ⟨h1, mtL_take k h⟩
theorem run_part {t : TypeId} {l : List C} {off : Nat} {s : S} (h : xPart P t l off = some s) {β : Beta} {vs : List Value} (hl : mtL β ρ l vs) (w : World) :
    ∃ v, (part t vs.toArray off).run P w = .ok v w ∧ s.mt β ρ v := by
  unfold xPart at h
  split at h
  · rename_i agg n ht
    split at h
    · rename_i hle
      simp only [Nat.ble_eq] at hle
      simp only [Option.some.injEq] at h
      subst h
      obtain ⟨h1, h2, h3⟩ := tyN_isAgg ht w
      have hm : mtL β ρ ((l.drop off).take n) ((vs.drop off).take n) := mtL_take n (mtL_drop off hl)
      have hlen := mtL_length hl
      unfold part
      rw [Sem.run_bind, h1]
      cases agg
      · have hn := h3 rfl
        subst hn
        simp only [Result.andThen_ok, Bool.false_eq_true, if_false]
        have hv : vs.toArray[off]? = some vs[off] := by simp
        rw [hv]
        refine ⟨vs[off], rfl, ?_⟩
        have e1 : (vs.drop off).take 1 = [vs[off]] := by
          rw [List.drop_eq_getElem_cons (by omega)]; rfl
        have e2 : (l.drop off).take 1 = [l[off]] := by
          rw [List.drop_eq_getElem_cons (by omega)]; rfl
        rw [e1, e2] at hm
        exact ⟨l[off], e2, hm.1⟩
      · simp only [Result.andThen_ok, if_true, Sem.run_bind, h2]
        refine ⟨_, rfl, _, rfl, ?_⟩
        rw [Array.toList_extract]
        simpa [List.extract_eq_take_drop] using hm
    · cases h
  · cases h

/-! ### load -/
def allLit : List (List C) → Option (IntKind × List Int)
  | [[.int k (.c n)]] => some (k, [n])
  | [.int k (.c n)] :: r => match allLit r with
    | some (l, ns) => if k == l then some (k, n :: ns) else none
    | none => none
  | _ => none
theorem allLit_spec : ∀ {xs : List (List C)} {k : IntKind} {ns : List Int}, allLit xs = some (k, ns) → xs = ns.map fun n => [C.int k (.c n)]
  | [], _, _, h => by simp [allLit] at h
  | [[.int k (.c n)]], l, ns, h => by
    simp only [allLit, Option.some.injEq, Prod.mk.injEq] at h
    obtain ⟨rfl, rfl⟩ := h
    rfl
  | [.int k (.c n)] :: y :: r, l, ns, h => by
    simp only [allLit] at h
    split at h
    · rename_i l' ns' h2
      split at h
      · rename_i hk
        simp only [beq_iff_eq] at hk
        simp only [Option.some.injEq, Prod.mk.injEq] at h
        obtain ⟨rfl, rfl⟩ := h
        subst hk
        rw [allLit_spec h2]
        rfl
      · cases h
    · cases h
  | [] :: _, _, _, h => by simp [allLit] at h
  | (.int _ (.v _) :: _) :: _, _, _, h => by simp [allLit] at h
  | (.bool _ :: _) :: _, _, _, h => by simp [allLit] at h
  | (.ptr _ _ _ :: _) :: _, _, _, h => by simp [allLit] at h
  | (.pix _ _ _ _ _ _ :: _) :: _, _, _, h => by simp [allLit] at h
  | (.sli _ _ _ _ :: _) :: _, _, _, h => by simp [allLit] at h
  | (.slx _ _ _ _ :: _) :: _, _, _, h => by simp [allLit] at h
  | (.pxq _ _ _ _ _ :: _) :: _, _, _, h => by simp [allLit] at h
  | (.val _ :: _) :: _, _, _, h => by simp [allLit] at h
  | (.junk :: _) :: _, _, _, h => by simp [allLit] at h
  | (.int _ (.c _) :: _ :: _) :: _, _, _, h => by simp [allLit] at h

/-- One of several stretches of cells, by a number. -/
def selL (a : A) : Nat → List (List C) → M (List C)
  | _, [] => M.fail
  | _, [x] => pure x
  | j, x :: y :: r => do
    let b ← mkCm .eql a (.c j)
    let z ← selL a (j + 1) (y :: r)
    muxL b x z
theorem selL_snd (a : A) : ∀ (xs : List (List C)) (j : Nat), Snd Φ ρ (selL a j xs) (fun z => ∀ i : Nat, a.d ρ = i → j ≤ i → i < j + xs.length → ∀ x, xs[i - j]? = some x →
    (∀ β vs, mtL β ρ x vs → mtL β ρ z vs) ∧ z.length = x.length ∧ ∀ β w k o, cellsAt β ρ w k o x → cellsAt β ρ w k o z)
  | [], _ => Snd.fail
  | [x], j => Snd.pure fun i _ h1 h2 y hy => by
    have : i - j = 0 := by simp at h2; omega
    rw [this] at hy
    simp at hy
    subst hy
    exact ⟨fun _ _ h => h, rfl, fun _ _ _ _ h => h⟩
  | x :: y :: r, j => by
    unfold selL
    refine Snd.bind (mkCm_snd _ _ _) fun b hb => Snd.bind (selL_snd a (y :: r) (j + 1)) fun z hz => (muxL_snd b x z).mono fun u hu => ?_
    intro i hi h1 h2 q hq
    obtain ⟨hl1, hl2, hm, hc⟩ := hu
    have hb' : b.d ρ = decide (i = j) := by
      rw [hb]; simp only [cmB, A.d_c, hi]
      rw [Bool.eq_iff_iff]; simp; omega
    by_cases e : i = j
    · subst e
      simp at hq
      subst hq
      simp at hb'
      exact ⟨fun β vs h => hm β vs (by rw [if_pos hb']; exact h), hl1, fun β w k o h => hc β w k o (by rw [if_pos hb']; exact h)⟩
    · have e2 : i - j = (i - (j + 1)) + 1 := by omega
      rw [e2] at hq
      simp only [List.getElem?_cons_succ] at hq
      simp only [e, decide_false] at hb'
      obtain ⟨g1, g2, g3⟩ := hz i hi (by omega) (by simp only [List.length_cons] at h2 ⊢; omega) q hq
      refine ⟨fun β vs h => hm β vs (by rw [if_neg (by simp [hb'])]; exact g1 β vs h), by omega, fun β w k o h => hc β w k o (by rw [if_neg (by simp [hb'])]; exact g3 β w k o h)⟩

/-- The cells behind an address by a number. -/
def chunks (Γ : Gd) (hp : Hp) (id off s n k : Nat) : Nat → Option (List (List C))
  | 0 => some []
  | len + 1 => match ldC Γ hp id (off + k) n, chunks Γ hp id (off + s) s n k len with
    | some x, some xs => some (x :: xs)
    | _, _ => none
theorem chunks_spec {id s n k : Nat} : ∀ {len off : Nat} {xs : List (List C)}, chunks Γ hp id off s n k len = some xs → xs.length = len ∧ ∀ i, i < len → ∃ x, xs[i]? = some x ∧ ldC Γ hp id (off + i * s + k) n = some x
  | 0, off, xs, h => by simp [chunks] at h; subst h; exact ⟨rfl, fun i hi => by omega⟩
  | len + 1, off, xs, h => by
    unfold chunks at h
    split at h
    · rename_i x ys h1 h2
      simp only [Option.some.injEq] at h
      subst h
      obtain ⟨g1, g2⟩ := chunks_spec h2
      refine ⟨by simp [g1], fun i hi => ?_⟩
      cases i with
      | zero => exact ⟨x, by simp, by simpa using h1⟩
      | succ i =>
        obtain ⟨y, hy, hl⟩ := g2 i (by omega)
        refine ⟨y, by simpa using hy, ?_⟩
        rw [show off + (i + 1) * s + k = off + s + i * s + k by rw [Nat.add_mul]; omega]
        exact hl
    · cases h

def ldPix (Γ : Gd) (hp : Hp) (id off s len : Nat) (a : A) (k n : Nat) : M (List C) := do
  let xs ← lift (chunks Γ hp id off s n k len)
  match allLit xs with
  | some (kd, ns) => if ns.all (inR kd) then do pure [.int kd (← newI (.tab ns a))] else M.fail
  | none => selL a 0 xs
theorem ldPix_snd (hΓ : Gd.d ρ Γ = true) (id off s len : Nat) (a : A) (k n : Nat) :
    Snd Φ ρ (ldPix Γ hp id off s len a k n) (fun x => ∀ β w, heapMt β ρ hp w → 0 ≤ a.d ρ → a.d ρ < len → x.length = n ∧ ∃ r, β id = some r ∧ cellsAt β ρ w r.blk (r.off + (off + (a.d ρ).toNat * s + k)) x) := by
  unfold ldPix
  refine Snd.bind (lift_snd _) fun xs hxs => ?_
  obtain ⟨h1, h2⟩ := chunks_spec hxs
  split
  · rename_i kd ns hal
    split
    · rename_i hall
      refine Snd.bind (newI_snd _) fun z hz => Snd.pure fun β w hh h0 hlt => ?_
      obtain ⟨i, hi⟩ := Int.eq_ofNat_of_zero_le h0
      obtain ⟨x, hx, hld⟩ := h2 i (by omega)
      obtain ⟨g1, r, hr, hc⟩ := ldC_spec hΓ hh hld
      have hxs2 := allLit_spec hal
      rw [hxs2] at hx
      rw [List.getElem?_map] at hx
      cases hn : ns[i]? with
      | none => rw [hn] at hx; simp at hx
      | some m =>
        rw [hn] at hx
        simp at hx
        subst hx
        have hzd : z.d ρ = m := by
          rw [hz]; simp only [RI.d, hi, Int.toNat_natCast]
          rw [List.getD_eq_getElem?_getD, hn]; rfl
        have hm : inR kd m = true := (List.all_eq_true.1 hall) m (List.mem_of_getElem? hn)
        unfold inR at hm
        simp at hm
        simp only [hi, Int.toNat_natCast]
        obtain ⟨⟨v, hv, hvm⟩, _⟩ := hc
        refine ⟨by simpa using g1, r, hr, ⟨v, hv, ?_⟩, trivial⟩
        show v = .int kd (z.d ρ) ∧ InR kd (z.d ρ)
        rw [hzd]
        exact hvm
    · exact Snd.fail
  · refine (selL_snd a xs 0).mono fun z hz β w hh h0 hlt => ?_
    obtain ⟨i, hi⟩ := Int.eq_ofNat_of_zero_le h0
    obtain ⟨x, hx, hld⟩ := h2 i (by omega)
    obtain ⟨g1, r, hr, hc⟩ := ldC_spec hΓ hh hld
    obtain ⟨e1, e2, e3⟩ := hz i hi (by omega) (by omega) x (by simpa using hx)
    simp only [hi, Int.toNat_natCast]
    exact ⟨by omega, r, hr, e3 β w _ _ hc⟩

/-- An element's cells, of a list of numbers. -/
def ldSq (s : Nat) (q a : A) : Nat → List CK → M (List C)
  | _, [] => pure []
  | k, .int kd :: ks => do
    let x ← newI (.get q a s k)
    let l ← ldSq s q a (k + 1) ks
    pure (.int kd x :: l)
  | k, .bool :: ks => do
    let x ← newB (.getb q a s k)
    let l ← ldSq s q a (k + 1) ks
    pure (.bool x :: l)
  | k, .str :: ks => do
    let x ← newI (.get q a s k)
    let l ← ldSq s q a (k + 1) ks
    pure (.str x :: l)
  | _, _ => M.fail
theorem ldSq_snd (s : Nat) (q a : A) : ∀ (ks : List CK) (k : Nat), Snd Φ ρ (ldSq s q a k ks) (fun cs => cs.length = ks.length ∧ ∀ (β : Beta) (w : World) (b o : Nat),
    (∀ j, j < ks.length → ∃ ck v, ks[j]? = some ck ∧ w.cell? ⟨b, o + j, none⟩ = some v ∧ ckv ck ((dec (q.d ρ)).getD ((a.d ρ).toNat * s + (k + j)) 0) v) → cellsAt β ρ w b o cs)
  | [], k => Snd.pure ⟨rfl, fun _ _ _ _ _ => trivial⟩
  | .int kd :: ks, k => by
    unfold ldSq
    refine Snd.bind (newI_snd _) fun x hx => Snd.bind (ldSq_snd s q a ks (k + 1)) fun l hl => Snd.pure ⟨by simp [hl.1], fun β w b o h => ⟨?_, ?_⟩⟩
    · obtain ⟨ck, v, h1, h2, h3⟩ := h 0 (by simp)
      simp only [List.getElem?_cons_zero, Option.some.injEq] at h1
      subst h1
      refine ⟨v, by simpa using h2, ?_⟩
      show v = .int kd (x.d ρ) ∧ InR kd (x.d ρ)
      rw [hx]
      exact h3
    · refine hl.2 β w b (o + 1) fun j hj => ?_
      obtain ⟨ck, v, h1, h2, h3⟩ := h (j + 1) (by simpa using hj)
      refine ⟨ck, v, by simpa using h1, by rw [show o + 1 + j = o + (j + 1) by omega]; exact h2, by rw [show k + 1 + j = k + (j + 1) by omega]; exact h3⟩
  | .bool :: ks, k => by
    unfold ldSq
    refine Snd.bind (newB_snd _) fun x hx => Snd.bind (ldSq_snd s q a ks (k + 1)) fun l hl => Snd.pure ⟨by simp [hl.1], fun β w b o h => ⟨?_, ?_⟩⟩
    · obtain ⟨ck, v, h1, h2, h3⟩ := h 0 (by simp)
      simp only [List.getElem?_cons_zero, Option.some.injEq] at h1
      subst h1
      refine ⟨v, by simpa using h2, ?_⟩
      show v = .bool (x.d ρ)
      rw [hx]
      exact h3.2
    · refine hl.2 β w b (o + 1) fun j hj => ?_
      obtain ⟨ck, v, h1, h2, h3⟩ := h (j + 1) (by simpa using hj)
      refine ⟨ck, v, by simpa using h1, by rw [show o + 1 + j = o + (j + 1) by omega]; exact h2, by rw [show k + 1 + j = k + (j + 1) by omega]; exact h3⟩
  | .str :: ks, k => by
    unfold ldSq
    refine Snd.bind (newI_snd _) fun x hx => Snd.bind (ldSq_snd s q a ks (k + 1)) fun l hl => Snd.pure ⟨by simp [hl.1], fun β w b o h => ⟨?_, ?_⟩⟩
    · obtain ⟨ck, v, h1, h2, h3⟩ := h 0 (by simp)
      simp only [List.getElem?_cons_zero, Option.some.injEq] at h1
      subst h1
      refine ⟨v, by simpa using h2, ?_⟩
      obtain ⟨t, e1, e2, e3⟩ := h3
      exact ⟨t, e1, by rw [hx]; exact e2, e3⟩
    · refine hl.2 β w b (o + 1) fun j hj => ?_
      obtain ⟨ck, v, h1, h2, h3⟩ := h (j + 1) (by simpa using hj)
      refine ⟨ck, v, by simpa using h1, by rw [show o + 1 + j = o + (j + 1) by omega]; exact h2, by rw [show k + 1 + j = k + (j + 1) by omega]; exact h3⟩
  | .pt _ _ :: ks, k => Snd.fail
theorem mod_in {a s k : Nat} (h : k < s) : (a * s + k) % s = k := by
  rw [Nat.mul_comm, Nat.mul_add_mod]; exact Nat.mod_eq_of_lt h

def xLoad (P : Program) (Γ : Gd) (hp : Hp) (t : TypeId) (x : S) : M S := do
  let p ← lift (tyN P t)
  match x with
  | .one false [.ptr l id off] => do pure (.one p.1 (← ldAlt Γ hp p.2 l id off))
  | .one false [.pix id off s len a k] => do pure (.one p.1 (← ldPix Γ hp id off s len a k p.2))
  | .one false [.pxq id ks q a k] => if Nat.ble (k + p.2) ks.length then do pure (.one p.1 (← ldSq ks.length q a k ((ks.drop k).take p.2))) else M.fail
  | _ => M.fail
theorem pure_load (hΓ : Gd.d ρ Γ = true) (t : TypeId) (x : Operand) :
    Snd Φ ρ (xLoad P Γ hp t (rs Γ (rv x))) (Pure P Γ hp rv ⟨dst, .load t x, ty, pos, after, guard⟩ ρ) := by
  unfold xLoad
  refine Snd.bind (lift_snd _) fun p ht => ?_
  obtain ⟨agg, n⟩ := p
  split
  · rename_i l id off h1
    refine Snd.bind (ldAlt_snd hΓ _ _ _ _) fun cs hcs => Snd.pure fun β ac w hx hh hq => ?_
    obtain ⟨hl, hcs⟩ := hcs
    obtain ⟨r, hr, hc⟩ := hcs β w hh
    obtain ⟨r', hr', hv⟩ := mt_cell h1 (rs_mt hΓ (hx x (by simp [Op.operands])))
    rw [hr] at hr'
    cases hr'
    obtain ⟨v, hv2, hm⟩ := run_loadVar ht hl hc
    exact ⟨v, by simp [execOp, Instr.loadAt, Instr.sureAddr, hv, hv2], hm⟩
  · rename_i id off s len a k h1
    refine Snd.bind (ldPix_snd hΓ _ _ _ _ _ _ _) fun cs hcs => Snd.pure fun β ac w hx hh hq => ?_
    obtain ⟨h0, hlt, r', hr', hv⟩ := mt_cell h1 (rs_mt hΓ (hx x (by simp [Op.operands])))
    obtain ⟨hl, r, hr, hc⟩ := hcs β w hh h0 hlt
    rw [hr] at hr'
    cases hr'
    obtain ⟨v, hv2, hm⟩ := run_loadVar ht hl hc
    exact ⟨v, by simp [execOp, Instr.loadAt, Instr.sureAddr, hv, hv2], hm⟩
  · rename_i id ks q a k h1
    split
    · rename_i hk
      simp only [Nat.ble_eq] at hk
      refine Snd.bind (ldSq_snd ks.length q a _ k) fun cs hcs => Snd.pure fun β ac w hx hh hq => ?_
      obtain ⟨h0, r, l, hr, hs, hqe, hlt, hv⟩ := mt_cell h1 (rs_mt hΓ (hx x (by simp [Op.operands])))
      obtain ⟨_, _, hsq⟩ := hq id r ks _ hr hs
      obtain ⟨hl, hcs⟩ := hcs
      have hl' : cs.length = n := by rw [hl]; simp; omega
      have hc : cellsAt β ρ w r.blk (r.off + ((a.d ρ).toNat * ks.length + k)) cs := by
        refine hcs β w _ _ fun j hj => ?_
        rw [hqe, dec_enc]
        have hjn : j < n := by simpa using (by simp at hj; omega)
        have hidx : (a.d ρ).toNat * ks.length + (k + j) < l.length := by
          rw [Nat.add_mul] at hlt
          omega
        obtain ⟨ck, v, g1, g2, g3⟩ := hsq _ _ (List.getElem?_eq_getElem hidx)
        rw [mod_in (by omega)] at g1
        refine ⟨ck, v, ?_, ?_, ?_⟩
        · rw [List.getElem?_take, if_pos hjn, List.getElem?_drop]; exact g1
        · rw [show r.off + ((a.d ρ).toNat * ks.length + k) + j = r.off + ((a.d ρ).toNat * ks.length + (k + j)) by omega]; exact g2
        · rw [List.getD_eq_getElem?_getD, List.getElem?_eq_getElem hidx]; exact g3
      obtain ⟨v, hv2, hm⟩ := run_loadVar ht hl' hc
      exact ⟨v, by simp [execOp, Instr.loadAt, Instr.sureAddr, hv, hv2], hm⟩
    · exact Snd.fail
  · exact Snd.fail

/-! ### Addresses -/
def ptrAdd (n : Nat) : C → Option C
  | .ptr l id off => some (.ptr (l.map fun p => (p.1, p.2.1, p.2.2 + n)) id (off + n))
  | .pix id off s len a k => some (.pix id off s len a (k + n))
  | .pxq id ks q a k => some (.pxq id ks q a (k + n))
  | _ => none
theorem pick_add (n : Nat) (id off : Nat) : ∀ l, pick ρ (l.map fun p => (p.1, p.2.1, p.2.2 + n)) id (off + n) = ((pick ρ l id off).1, (pick ρ l id off).2 + n)
  | [] => rfl
  | p :: l => by
    obtain ⟨b, i, o⟩ := p
    simp only [List.map_cons, pick]
    split
    · rfl
    · exact pick_add n id off l
theorem ptrAdd_mt {n : Nat} {c d : C} (h : ptrAdd n c = some d) {β : Beta} {v : Value} (hv : c.mt β ρ v) : ∃ b o, v = .pointer (some ⟨b, o, none⟩) ∧ d.mt β ρ (.pointer (some ⟨b, o + n, none⟩)) := by
  cases c with
  | ptr l id off =>
    simp only [ptrAdd, Option.some.injEq] at h
    subst h
    obtain ⟨r, hr, hv⟩ := hv
    refine ⟨_, _, hv, r, ?_, ?_⟩
    · rw [pick_add]; exact hr
    · rw [pick_add]; simp; omega
  | pix id off s len a k =>
    simp only [ptrAdd, Option.some.injEq] at h
    subst h
    obtain ⟨h0, hlt, r, hr, hv⟩ := hv
    exact ⟨_, _, hv, h0, hlt, r, hr, by simp; omega⟩
  | pxq id ks q a k =>
    simp only [ptrAdd, Option.some.injEq] at h
    subst h
    obtain ⟨h0, r, l, hr, h1, h2, h3, hv⟩ := hv
    exact ⟨_, _, hv, h0, r, l, hr, h1, h2, h3, by simp; omega⟩
  | _ => simp [ptrAdd] at h

def fieldN (P : Program) (t : TypeId) (f : Nat) : Option (Nat × TypeId) :=
  match P.underlying t with
  | some (.struct fs) => match fs[f]? with
    | some fd => some (fd.offset, fd.type)
    | none => none
  | _ => none
def xFieldAddr (P : Program) (t : TypeId) (f : Nat) (x : S) : M S := do
  let (off, ft) ← lift (fieldN P t f)
  let (_, n) ← lift (tyN P ft)
  if n == 0 then M.fail else
  match x with
  | .one false [c] => do pure (.one false [← lift (ptrAdd off c)])
  | _ => M.fail
theorem pure_fieldAddr (hΓ : Gd.d ρ Γ = true) (t : TypeId) (f : Nat) (x : Operand) :
    Snd Φ ρ (xFieldAddr P t f (rs Γ (rv x))) (Pure P Γ hp rv ⟨dst, .fieldAddr t x f, ty, pos, after, guard⟩ ρ) := by
  unfold xFieldAddr
  refine Snd.bind (lift_snd _) fun p hf => ?_
  obtain ⟨off, ft⟩ := p
  refine Snd.bind (lift_snd _) fun q hq => ?_
  obtain ⟨agg, n⟩ := q
  simp only
  split
  · exact Snd.fail
  · rename_i hn
    simp only [beq_iff_eq] at hn
    split
    · rename_i c h1
      refine Snd.bind (lift_snd _) fun d hd => Snd.pure fun β ac w hx hh hq => ?_
      obtain ⟨b, o, hv, hm⟩ := ptrAdd_mt hd (mt_cell h1 (rs_mt hΓ (hx x (by simp [Op.operands]))))
      refine ⟨_, ?_, mt_of_cell hm⟩
      unfold fieldN at hf
      split at hf
      · rename_i fs hu
        split at hf
        · rename_i fd hfd
          simp only [Option.some.injEq, Prod.mk.injEq] at hf
          obtain ⟨rfl, rfl⟩ := hf
          simp [execOp, Instr.fieldAt, underlying, hu, hfd, Instr.sureAddr, hv, fieldPlace, (tyN_isAgg hq w).2.1, hn, add_lit]
        · cases hf
      · cases hf
    · exact Snd.fail

def xField (P : Program) (t : TypeId) (f : Nat) (x : S) : M S := do
  let (off, ft) ← lift (fieldN P t f)
  match x with
  | .one true l => lift (xPart P ft l off)
  | _ => M.fail
theorem pure_field (hΓ : Gd.d ρ Γ = true) (t : TypeId) (f : Nat) (x : Operand) :
    Snd Φ ρ (xField P t f (rs Γ (rv x))) (Pure P Γ hp rv ⟨dst, .field t x f, ty, pos, after, guard⟩ ρ) := by
  unfold xField
  refine Snd.bind (lift_snd _) fun p hf => ?_
  obtain ⟨off, ft⟩ := p
  simp only
  split
  · rename_i l h1
    refine (lift_snd _).mono fun s hs β ac w hx hh hq => ?_
    have hm := rs_mt hΓ (hx x (by simp [Op.operands]))
    rw [h1] at hm
    obtain ⟨vs, hv, hl⟩ := hm
    obtain ⟨v, hr, hsm⟩ := run_part hs hl w
    refine ⟨v, ?_, hsm⟩
    unfold fieldN at hf
    split at hf
    · rename_i fs hu
      split at hf
      · rename_i fd hfd
        simp only [Option.some.injEq, Prod.mk.injEq] at hf
        obtain ⟨rfl, rfl⟩ := hf
        simp [execOp, Instr.field, underlying, hu, hfd, hv, asAgg, hr]
      · cases hf
    · cases hf
  · exact Snd.fail

/-! ### nilCheck, extract -/
def xNil (x : S) : M S :=
  match x with
  | .one false [.ptr l id off] => pure (.one false [.ptr l id off])
  | .one false [.pix id off s len a k] => pure (.one false [.pix id off s len a k])
  | _ => M.fail
theorem pure_nil (hΓ : Gd.d ρ Γ = true) (x : Operand) : Snd Φ ρ (xNil (rs Γ (rv x))) (Pure P Γ hp rv ⟨dst, .nilCheck x, ty, pos, after, guard⟩ ρ) := by
  unfold xNil
  split
  · rename_i l id off h1
    refine Snd.pure fun β ac w hx hh hq => ?_
    have hm := rs_mt hΓ (hx x (by simp [Op.operands]))
    obtain ⟨r, hr, hv⟩ := mt_cell h1 hm
    rw [h1] at hm
    exact ⟨ac.eval x, by simp [execOp, hv], hm⟩
  · rename_i id off s len a k h1
    refine Snd.pure fun β ac w hx hh hq => ?_
    have hm := rs_mt hΓ (hx x (by simp [Op.operands]))
    obtain ⟨_, _, r, hr, hv⟩ := mt_cell h1 hm
    rw [h1] at hm
    exact ⟨ac.eval x, by simp [execOp, hv], hm⟩
  · exact Snd.fail

theorem mtT_get {β : Beta} : ∀ {l : List (Bool × List C)} {vs : List Value}, mtT β ρ l vs → ∀ (j : Nat) (p : Bool × List C), l[j]? = some p → ∃ v, vs[j]? = some v ∧ mt1 β ρ p.1 p.2 v
  | [], [], _, j, c, h => by simp at h
  | d :: l, v :: vs, ⟨h1, h2⟩, j, c, h => by
    cases j with
    | zero => simp at h; subst h; exact ⟨v, by simp, h1⟩
    | succ j => simp at h; simpa using mtT_get h2 j c h
def xExtract (i : Nat) (x : S) : M S :=
  match x with
  | .tup l => match l[i]? with
    | some p => pure (.one p.1 p.2)
    | none => M.fail
  | _ => M.fail
theorem pure_extract (hΓ : Gd.d ρ Γ = true) (x : Operand) (i : Nat) : Snd Φ ρ (xExtract i (rs Γ (rv x))) (Pure P Γ hp rv ⟨dst, .extract x i, ty, pos, after, guard⟩ ρ) := by
  unfold xExtract
  split
  · rename_i l h1
    split
    · rename_i p hp'
      refine Snd.pure fun β ac w hx hh hq => ?_
      have hm := rs_mt hΓ (hx x (by simp [Op.operands]))
      rw [h1] at hm
      obtain ⟨vs, hv, hl⟩ := hm
      obtain ⟨v, hv2, hvm⟩ := mtT_get hl i p hp'
      refine ⟨v, ?_, hvm⟩
      have : vs[i]? = some v := by simpa using hv2
      simp [execOp, Instr.extract, hv, this]
    · exact Snd.fail
  · exact Snd.fail
end ops
end Go.Proofs.YtalnndmnnffnmaaGreat.Sx
/-! ## SxF -/
set_option linter.unusedVariables false
set_option linter.unusedSimpArgs false
namespace Go.Proofs.YtalnndmnnffnmaaGreat.Sx
open Go

/-! ### '==' -/
def xPart2 (P : Program) (t : TypeId) (l : List C) (off : Nat) : Option (Bool × List C) :=
  match tyN P t with
  | some (agg, n) => if Nat.ble (off + n) l.length then some (agg, (l.drop off).take n) else none
  | none => none
theorem xPart2_spec {P : Program} {t : TypeId} {l : List C} {off : Nat} {p : Bool × List C} (h : xPart2 P t l off = some p) : xPart P t l off = some (.one p.1 p.2) := by
  unfold xPart2 at h
  unfold xPart
  split at h
  · rename_i ht
    split at h
    · simp only [Option.some.injEq] at h; subst h; rename_i hle; first | (rw [ht]; simp only []; rw [if_pos hle]) | rw [if_pos hle]
    · cases h
  · cases h

theorem encS_beq (s t : ByteArray) : (encS s == encS t) = (s.toList == t.toList) := by
  rw [Bool.eq_iff_iff, beq_iff_eq, beq_iff_eq]
  constructor
  · intro h; rw [encS_inj h]
  · intro h
    have : s = t := by
      have h2 : s.data.toList = t.data.toList := by simpa [ByteArray.toList_eq] using h
      cases s; cases t; congr 1; exact Array.toList_inj.1 h2
    rw [this]
def isFuncT (P : Program) (t : TypeId) : Bool := match P.underlying t with | some (.func _ _ _) => true | _ => false
abbrev EqF := TypeId → Bool × List C → Bool × List C → M B
def eqFs (P : Program) (go : EqF) (xs ys : List C) : List Field → M B
  | [] => pure (.c true)
  | f :: fs => if f.name == "_" then M.fail else do
    let a ← lift (xPart2 P f.type xs f.offset)
    let b ← lift (xPart2 P f.type ys f.offset)
    let r ← go f.type a b
    let s ← eqFs P go xs ys fs
    mkAnd r s
def eqAs (P : Program) (go : EqF) (e : TypeId) (s : Nat) (xs ys : List C) : Nat → Nat → M B
  | _, 0 => pure (.c true)
  | i, n + 1 => do
    let a ← lift (xPart2 P e xs (i * s))
    let b ← lift (xPart2 P e ys (i * s))
    let r ← go e a b
    let q ← eqAs P go e s xs ys (i + 1) n
    mkAnd r q
def eqX (P : Program) : Nat → EqF
  | 0 => fun _ _ _ => M.fail
  | d + 1 => fun t x y =>
    match P.underlying t with
    | some .bool => match x, y with
      | (false, [.bool a]), (false, [.bool b]) => mkEqb a b
      | _, _ => M.fail
    | some (.int _) => match x, y with
      | (false, [.int k a]), (false, [.int l b]) => if k == l then mkCm .eql a b else M.fail
      | _, _ => M.fail
    | some .string => match x, y with
      | (false, [c]), (false, [d]) => match asStr c, asStr d with
        | some p, some q => mkCm .eql p q
        | _, _ => M.fail
      | _, _ => M.fail
    | some (.struct fs) => match x, y with
      | (true, xs), (true, ys) => if P.stoodInHeld t then M.fail else eqFs P (eqX P d) xs ys fs.toList
      | _, _ => M.fail
    | some (.array n e) => match x, y, tyN P e with
      | (true, xs), (true, ys), some (_, s) => eqAs P (eqX P d) e s xs ys 0 n
      | _, _, _ => M.fail
    | _ => M.fail

def eqElems (d : Nat) (e : TypeId) (s : Nat) (xs ys : Array Value) : Nat → Nat → Sem Bool
  | _, 0 => pure true
  | i, n + 1 => do
    let a ← part e xs (i * s)
    let b ← part e ys (i * s)
    let r ← Op.equalIn d e a b
    if (!r) = true then pure false else eqElems d e s xs ys (i + 1) n
theorem run_equalIn_array {P : Program} (d : Nat) (t e : TypeId) (n s : Nat) (xs ys : Array Value) (ht : P.underlying t = some (.array n e)) (w : World) (hs : (sizeOf e).run P w = .ok s w) :
    (Op.equalIn (d + 1) t (.agg xs) (.agg ys)).run P w = (eqElems d e s xs ys 0 n).run P w := by
  simp only [Op.equalIn, Sem.run_bind, run_underlying ht, Result.andThen_ok, hs]
  simp only [Std.Legacy.Range.forIn_eq_forIn_range', Std.Legacy.Range.size, Nat.sub_zero, Nat.add_one_sub_one, Nat.div_one]
  clear ht hs
  generalize 0 = i
  induction n generalizing i w with
  | zero => simp [eqElems]
  | succ n ih =>
    simp only [List.range'_succ, List.forIn_cons, eqElems, Sem.run_bind, Sem.run_ite]
    generalize (part e xs (i * s)).run P w = r1
    cases r1 with
    | ok a w1 =>
      simp only [Result.andThen_ok]
      generalize (part e ys (i * s)).run P w1 = r2
      cases r2 with
      | ok b w2 =>
        simp only [Result.andThen_ok]
        generalize (Op.equalIn d e a b).run P w2 = r3
        cases r3 with
        | ok r w3 =>
          cases r
          · simp only [Result.andThen_ok, Bool.not_false, if_true, Sem.run_pure]
          · simp only [Result.andThen_ok, Bool.not_true, Bool.false_eq_true, if_false, Sem.run_pure]
            exact ih w3 (i + 1)
        | halt x w3 => simp [Result.andThen]
      | halt x w2 => simp [Result.andThen]
    | halt x w1 => simp [Result.andThen]

section ops
variable {P : Program} {Φ : Funs} {Γ : Gd} {hp : Hp} {rv : Operand → SV} {dst : Option Tmp} {ty : TypeId} {pos : String} {after : Array Edge} {guard : Option (Nat × Bool)} {ρ : Env}

def EqOk (P : Program) (ρ : Env) (d : Nat) (t : TypeId) (x y : Bool × List C) (b : B) : Prop :=
  ∀ (e : Nat) (β : Beta) (v u : Value) (w : World), mt1 β ρ x.1 x.2 v → mt1 β ρ y.1 y.2 u → (Op.equalIn (d + e) t v u).run P w = .ok (b.d ρ) w

theorem eqFs_snd {go : EqF} {d : Nat} (hgo : ∀ t x y, Snd Φ ρ (go t x y) (EqOk P ρ d t x y)) (xs ys : List C) : ∀ fs : List Field,
    Snd Φ ρ (eqFs P go xs ys fs) (fun b => ∀ (e : Nat) (β : Beta) (vs us : List Value) (w : World), mtL β ρ xs vs → mtL β ρ ys us → (Op.eqFields (d + e) vs.toArray us.toArray fs).run P w = .ok (b.d ρ) w)
  | [] => Snd.pure fun e β vs us w _ _ => rfl
  | f :: fs => by
    unfold eqFs
    split
    · exact Snd.fail
    · rename_i hn
      simp only [beq_iff_eq] at hn
      refine Snd.bind (lift_snd _) fun a ha => Snd.bind (lift_snd _) fun b hb => Snd.bind (hgo _ _ _) fun r hr => Snd.bind (eqFs_snd hgo xs ys fs) fun s hs => (mkAnd_snd r s).mono fun z hz => ?_
      intro e β vs us w hx hy
      obtain ⟨v, hv, hvm⟩ := run_part (xPart2_spec ha) hx w
      obtain ⟨u, hu, hum⟩ := run_part (xPart2_spec hb) hy w
      have h1 := hr e β v u w hvm hum
      have h2 := hs e β vs us w hx hy
      unfold Op.eqFields
      rw [if_pos hn]
      simp only [Sem.run_bind, hv, Result.andThen_ok, hu, h1, Sem.run_ite, Sem.run_pure, h2, hz]
      cases r.d ρ <;> simp
theorem eqAs_snd {go : EqF} {d : Nat} (hgo : ∀ t x y, Snd Φ ρ (go t x y) (EqOk P ρ d t x y)) (el : TypeId) (sz : Nat) (xs ys : List C) : ∀ (n i : Nat),
    Snd Φ ρ (eqAs P go el sz xs ys i n) (fun b => ∀ (e : Nat) (β : Beta) (vs us : List Value) (w : World), mtL β ρ xs vs → mtL β ρ ys us → (eqElems (d + e) el sz vs.toArray us.toArray i n).run P w = .ok (b.d ρ) w)
  | 0, i => Snd.pure fun e β vs us w _ _ => rfl
  | n + 1, i => by
    unfold eqAs
    refine Snd.bind (lift_snd _) fun a ha => Snd.bind (lift_snd _) fun b hb => Snd.bind (hgo _ _ _) fun r hr => Snd.bind (eqAs_snd hgo el sz xs ys n (i + 1)) fun s hs => (mkAnd_snd r s).mono fun z hz => ?_
    intro e β vs us w hx hy
    obtain ⟨v, hv, hvm⟩ := run_part (xPart2_spec ha) hx w
    obtain ⟨u, hu, hum⟩ := run_part (xPart2_spec hb) hy w
    have h1 := hr e β v u w hvm hum
    have h2 := hs e β vs us w hx hy
    unfold eqElems
    simp only [Sem.run_bind, hv, Result.andThen_ok, hu, h1, Sem.run_ite, Sem.run_pure, h2, hz]
    cases r.d ρ <;> simp
theorem eqX_snd : ∀ (d : Nat) (t : TypeId) (x y : Bool × List C), Snd Φ ρ (eqX P d t x y) (EqOk P ρ d t x y)
  | 0, _, _, _ => Snd.fail
  | d + 1, t, x, y => by
    unfold eqX
    split
    · rename_i hu
      split
      · rename_i a b
        refine (mkEqb_snd a b).mono fun z hz e β v u w hv hw => ?_
        rw [mt_bool rfl hv, mt_bool rfl hw, show d + 1 + e = (d + e) + 1 by omega, run_equalIn_bool' w _ t _ _ hu, hz]
      · exact Snd.fail
    · rename_i k hu
      split
      · rename_i k1 a k2 b
        split
        · rename_i hk
          simp only [beq_iff_eq] at hk
          subst hk
          refine (mkCm_snd _ a b).mono fun z hz e β v u w hv hw => ?_
          rw [(mt_int rfl hv).1, (mt_int rfl hw).1, show d + 1 + e = (d + e) + 1 by omega, run_equalIn_int w _ t _ k _ _ hu, hz]
          rfl
        · exact Snd.fail
      · exact Snd.fail
    · rename_i hu
      split
      · rename_i c1 c2
        split
        · rename_i p q hp hq
          refine (mkCm_snd _ p q).mono fun z hz e β v u w hv hw => ?_
          obtain ⟨s1, rfl, e1, _⟩ := asStr_mt hp (mt_cell (s := .one false [c1]) rfl hv)
          obtain ⟨s2, rfl, e2, _⟩ := asStr_mt hq (mt_cell (s := .one false [c2]) rfl hw)
          rw [show d + 1 + e = (d + e) + 1 by omega, run_equalIn_string w _ t _ _ hu, hz]
          show _ = Result.ok (p.d ρ == q.d ρ) w
          rw [e1, e2, encS_beq]
        · exact Snd.fail
      · exact Snd.fail
    · rename_i fs hu
      split
      · rename_i xs ys
        split
        · exact Snd.fail
        · rename_i hst
          refine (eqFs_snd (eqX_snd d) xs ys fs.toList).mono fun z hz e β v u w hv hw => ?_
          obtain ⟨vs, rfl, hv⟩ := hv
          obtain ⟨us, rfl, hw⟩ := hw
          have hf : P.fieldsOf t = fs := by simp [Program.fieldsOf, hu]
          rw [show d + 1 + e = (d + e) + 1 by omega, run_equalIn_struct w _ t _ _ (by rw [hf]; exact hu) (by simpa using hst), hf]
          exact hz e β _ _ w hv hw
      · exact Snd.fail
    · rename_i n el hu
      split
      · rename_i xs ys agg s ht
        refine (eqAs_snd (eqX_snd d) el s xs ys n 0).mono fun z hz e β v u w hv hw => ?_
        obtain ⟨vs, rfl, hv⟩ := hv
        obtain ⟨us, rfl, hw⟩ := hw
        rw [show d + 1 + e = (d + e) + 1 by omega, run_equalIn_array _ t el n s _ _ hu w (tyN_isAgg ht w).2.1]
        exact hz e β _ _ w hv hw
      · exact Snd.fail
    · exact Snd.fail

/-- Is a function's value none? -/
def nilF (d : FV) : List (B × FV) → M B
  | [] => pure (.c d.isNone)
  | (b, f) :: l => do
    let r ← nilF d l
    mkIteB b (.c f.isNone) r
theorem nilF_snd (d : FV) : ∀ l : List (B × FV), Snd Φ ρ (nilF d l) (fun z => z.d ρ = (pickF ρ l d).isNone)
  | [] => Snd.pure rfl
  | (b, f) :: l => by
    unfold nilF
    refine Snd.bind (nilF_snd d l) fun r hr => (mkIteB_snd _ _ _).mono fun z hz => ?_
    rw [hz, hr]
    simp only [pickF, B.d_c]
    split <;> rfl
theorem fvMt_nil {β : Beta} {f : FV} {v : Value} (h : fvMt β f v) {t : TypeId} (ht : isFuncT P t = true) (w : World) : (Op.equal t v .nilFunc).run P w = .ok f.isNone w ∧ (∀ op x y, eqGuard op t x y v .nilFunc = pure ()) ∧
    (∀ w, (binOp .eql t v .nilFunc).run P w = (do pure (.bool (← Op.equal t v .nilFunc)) : Sem Value).run P w) ∧ (∀ w, (binOp .neq t v .nilFunc).run P w = (do pure (.bool (!(← Op.equal t v .nilFunc))) : Sem Value).run P w) := by
  unfold isFuncT at ht
  split at ht
  · rename_i a b c hu
    unfold fvMt at h
    split at h
    · subst h
      refine ⟨?_, fun op x y => by cases op <;> rfl, fun w => rfl, fun w => rfl⟩
      unfold Op.equal Op.maxDepth
      rw [show (10000 : Nat) = 9999 + 1 from rfl, Op.equalIn]
      simp [underlying, hu]
    · obtain ⟨vs, rfl, _⟩ := h
      refine ⟨?_, fun op x y => by cases op <;> rfl, fun w => rfl, fun w => rfl⟩
      unfold Op.equal Op.maxDepth
      rw [show (10000 : Nat) = 9999 + 1 from rfl, Op.equalIn]
      simp [underlying, hu]
  · cases ht
def xBinA (P : Program) (op : BinOp) (t : TypeId) (x y : S) : M S :=
  match x, y with
  | .one true xs, .one true ys =>
    if P.eqGuardType P.depth t then M.fail else do
    let e ← eqX P 20 t (true, xs) (true, ys)
    match op with
    | .eql => pure (.one false [.bool e])
    | .neq => do pure (.one false [.bool (← mkNot e)])
    | _ => M.fail
  | .one false [c], .one false [d] => match asStr c, asStr d with
    | some p, some q => match op with
      | .eql => do pure (.one false [.bool (← mkCm .eql p q)])
      | .neq => do pure (.one false [.bool (← mkCm .neq p q)])
      | _ => M.fail
    | _, _ => match asFn c, d with
      | some p, .val .nilFunc => if isFuncT P t then match op with
          | .eql => do pure (.one false [.bool (← nilF p.2 p.1)])
          | .neq => do pure (.one false [.bool (← mkNot (← nilF p.2 p.1))])
          | _ => M.fail
        else M.fail
      | _, _ => xBin P op t (.one false [c]) (.one false [d])
  | x, y => xBin P op t x y
theorem pure_binA (hΓ : Gd.d ρ Γ = true) (op : BinOp) (t t' : TypeId) (x y : Operand) :
    Snd Φ ρ (xBinA P op t (rs Γ (rv x)) (rs Γ (rv y))) (Pure P Γ hp rv ⟨dst, .binOp op t x y t', ty, pos, after, guard⟩ ρ) := by
  unfold xBinA
  split
  · rename_i xs ys h1 h2
    split
    · exact Snd.fail
    · rename_i hg
      have hg' : P.eqGuardType P.depth t = false := by simpa using hg
      refine Snd.bind (eqX_snd 20 t _ _) fun b hb => ?_
      have key : ∀ (β : Beta) (ac : Act) (w : World), (rv x).mt β ρ (ac.eval x) → (rv y).mt β ρ (ac.eval y) → ∃ vs us, ac.eval x = .agg vs ∧ ac.eval y = .agg us ∧ (Op.equalIn 10000 t (.agg vs) (.agg us)).run P w = .ok (b.d ρ) w := by
        intro β ac w hx hy
        have mx := rs_mt hΓ hx
        have my := rs_mt hΓ hy
        rw [h1] at mx
        rw [h2] at my
        obtain ⟨vs, hv, hvl⟩ := mx
        obtain ⟨us, hu, hul⟩ := my
        exact ⟨vs, us, hv, hu, hb 9980 β _ _ w ⟨vs, rfl, hvl⟩ ⟨us, rfl, hul⟩⟩
      split
      · refine Snd.pure fun β ac w hx hh hq => ?_
        obtain ⟨vs, us, hv, hu, he⟩ := key β ac w (hx x (by simp [Op.operands])) (hx y (by simp [Op.operands]))
        exact ⟨_, by simp only [execOp, Sem.run_bind, hv, hu, run_eqGuard_agg w _ t x y vs us hg', Result.andThen_ok, run_eql_struct, he, Sem.run_pure], S.mt_b⟩
      · refine Snd.bind (mkNot_snd b) fun z hz => Snd.pure fun β ac w hx hh hq => ?_
        obtain ⟨vs, us, hv, hu, he⟩ := key β ac w (hx x (by simp [Op.operands])) (hx y (by simp [Op.operands]))
        exact ⟨_, by simp only [execOp, Sem.run_bind, hv, hu, run_eqGuard_agg w _ t x y vs us hg', Result.andThen_ok, run_neq_struct, he, Sem.run_pure, ← hz], S.mt_b⟩
      · exact Snd.fail
  · rename_i c d h1 h2
    split
    · rename_i p q hp hq
      have key : ∀ (β : Beta) (ac : Act), (rv x).mt β ρ (ac.eval x) → (rv y).mt β ρ (ac.eval y) → ∃ s u : ByteArray, ac.eval x = .string s ∧ ac.eval y = .string u ∧ p.d ρ = encS s ∧ q.d ρ = encS u := by
        intro β ac hx hy
        obtain ⟨s, e1, e2, _⟩ := asStr_mt hp (mt_cell h1 (rs_mt hΓ hx))
        obtain ⟨u, e3, e4, _⟩ := asStr_mt hq (mt_cell h2 (rs_mt hΓ hy))
        exact ⟨s, u, e1, e3, e2, e4⟩
      split
      · refine Snd.bind (mkCm_snd _ p q) fun z hz => Snd.pure fun β ac w hx hh hq => ?_
        obtain ⟨s, u, e1, e2, e3, e4⟩ := key β ac (hx x (by simp [Op.operands])) (hx y (by simp [Op.operands]))
        refine ⟨.bool (z.d ρ), ?_, S.mt_b⟩
        have hz' : z.d ρ = (s.toList == u.toList) := by rw [hz, ← encS_beq, ← e3, ← e4]; rfl
        rw [hz']
        simp [execOp, e1, e2, eqGuard, binOp, Op.stringOp]
      · refine Snd.bind (mkCm_snd _ p q) fun z hz => Snd.pure fun β ac w hx hh hq => ?_
        obtain ⟨s, u, e1, e2, e3, e4⟩ := key β ac (hx x (by simp [Op.operands])) (hx y (by simp [Op.operands]))
        refine ⟨.bool (z.d ρ), ?_, S.mt_b⟩
        have hz' : z.d ρ = !(s.toList == u.toList) := by rw [hz, ← encS_beq, ← e3, ← e4]; rfl
        rw [hz']
        simp [execOp, e1, e2, eqGuard, binOp, Op.stringOp]
      · exact Snd.fail
    · split
      · rename_i p hp _
        split
        · rename_i hft
          have key : ∀ (β : Beta) (ac : Act), (rv x).mt β ρ (ac.eval x) → (rv y).mt β ρ (ac.eval y) → fvMt β (pickF ρ p.1 p.2) (ac.eval x) ∧ ac.eval y = .nilFunc := by
            intro β ac hx hy
            exact ⟨asFn_mt hp (mt_cell h1 (rs_mt hΓ hx)), (mt_cell h2 (rs_mt hΓ hy)).1⟩
          split
          · refine Snd.bind (nilF_snd _ _) fun z hz => Snd.pure fun β ac w hx hh hq => ?_
            obtain ⟨e1, e2⟩ := key β ac (hx x (by simp [Op.operands])) (hx y (by simp [Op.operands]))
            obtain ⟨g1, g2, g3, g4⟩ := fvMt_nil e1 hft w
            refine ⟨.bool (z.d ρ), ?_, S.mt_b⟩
            simp only [execOp, Sem.run_bind, e2, g2, Sem.run_pure, Result.andThen_ok, g3, g1, hz]
          · refine Snd.bind (nilF_snd _ _) fun z hz => Snd.bind (mkNot_snd z) fun z' hz' => Snd.pure fun β ac w hx hh hq => ?_
            obtain ⟨e1, e2⟩ := key β ac (hx x (by simp [Op.operands])) (hx y (by simp [Op.operands]))
            obtain ⟨g1, g2, g3, g4⟩ := fvMt_nil e1 hft w
            refine ⟨.bool (z'.d ρ), ?_, S.mt_b⟩
            simp only [execOp, Sem.run_bind, e2, g2, Sem.run_pure, Result.andThen_ok, g4, g1, hz', hz]
          · exact Snd.fail
        · exact Snd.fail
      · rw [← h1, ← h2]
        exact pure_bin hΓ op t t' x y
  · exact pure_bin hΓ op t t' x y

/-! ### Indexing -/
def litIdx (a : A) (len : Nat) : Option (Option Nat) :=
  match a with
  | .c (.ofNat i) => if Nat.blt i len then some (some i) else none
  | .c (.negSucc _) => none
  | .v _ => some none
def xIdxC (c : C) (a : A) (s len : Nat) : M C :=
  match a, c with
  | .c (.ofNat i), c => if Nat.blt i len then lift (ptrAdd (i * s) c) else M.fail
  | .v n, .ptr [] id off => do
    let b1 ← mkCm .geq (.v n) (.c 0)
    oblige b1
    let b2 ← mkCm .lss (.v n) (.c len)
    oblige b2
    pure (.pix id off s len (.v n) 0)
  | _, _ => M.fail
theorem xIdxC_snd (c : C) (a : A) (s len : Nat) : Snd Φ ρ (xIdxC c a s len) (fun d => 0 ≤ a.d ρ ∧ a.d ρ < len ∧ ∀ β v, c.mt β ρ v → ∃ b o, v = .pointer (some ⟨b, o, none⟩) ∧ d.mt β ρ (.pointer (some ⟨b, o + (a.d ρ).toNat * s, none⟩))) := by
  unfold xIdxC
  split
  · rename_i i
    split
    · rename_i hlt
      simp only [Nat.blt_eq] at hlt
      refine (lift_snd _).mono fun d hd => ⟨by simp, by simp; omega, fun β v hv => ?_⟩
      obtain ⟨b, o, h1, h2⟩ := ptrAdd_mt hd hv
      exact ⟨b, o, h1, by simpa using h2⟩
    · exact Snd.fail
  · rename_i n id off
    refine Snd.bind (mkCm_snd _ _ _) fun b1 h1 => Snd.bind (oblige_snd b1) fun _ h2 => Snd.bind (mkCm_snd _ _ _) fun b2 h3 => Snd.bind (oblige_snd b2) fun _ h4 => Snd.pure ?_
    rw [h1] at h2
    rw [h3] at h4
    replace h2 : 0 ≤ (A.v n).d ρ := of_decide_eq_true h2
    replace h4 : (A.v n).d ρ < len := of_decide_eq_true h4
    refine ⟨h2, h4, fun β v hv => ?_⟩
    obtain ⟨r, hr, hv⟩ := hv
    exact ⟨_, _, hv, h2, h4, r, hr, by simp only [pick]; congr 3; omega⟩
  · exact Snd.fail

def xIndexAddr (P : Program) (t : TypeId) (x ix : S) : M S :=
  match P.underlying t, x, ix with
  | some (.array len e), .one false [c], .one false [.int _ a] => do
    let (_, s) ← lift (tyN P e)
    pure (.one false [← xIdxC c a s len])
  | some (.slice e), .one false [.sli id off len cap], .one false [.int _ a] => do
    let (_, s) ← lift (tyN P e)
    pure (.one false [← xIdxC (.ptr [] id off) a s len])
  | some (.slice e), .one false [.slx id ks q len], .one false [.int _ a] => do
    let (_, s) ← lift (tyN P e)
    if s == ks.length then do
      let b1 ← mkCm .geq a (.c 0)
      oblige b1
      let b2 ← mkCm .lss a len
      oblige b2
      pure (.one false [.pxq id ks q a 0])
    else M.fail
  | _, _, _ => M.fail
theorem pure_indexAddr (hΓ : Gd.d ρ Γ = true) (t : TypeId) (x ix : Operand) :
    Snd Φ ρ (xIndexAddr P t (rs Γ (rv x)) (rs Γ (rv ix))) (Pure P Γ hp rv ⟨dst, .indexAddr t x ix, ty, pos, after, guard⟩ ρ) := by
  unfold xIndexAddr
  split
  · rename_i len e c k a hu h1 h2
    refine Snd.bind (lift_snd _) fun p ht => ?_
    obtain ⟨agg, s⟩ := p
    refine Snd.bind (xIdxC_snd _ _ _ _) fun d hd => Snd.pure fun β ac w hx hh hq => ?_
    obtain ⟨g1, g2, g3⟩ := hd
    obtain ⟨b, o, hv, hm⟩ := g3 β _ (mt_cell h1 (rs_mt hΓ (hx x (by simp [Op.operands]))))
    have hi := (mt_int h2 (rs_mt hΓ (hx ix (by simp [Op.operands])))).1
    refine ⟨_, ?_, mt_of_cell hm⟩
    simp [execOp, Instr.indexAt, hi, asIntOf, underlying, hu, Instr.sureAddr, hv, g1, g2, (tyN_isAgg ht w).2.1, add_lit]
  · rename_i e id off len cap k a hu h1 h2
    refine Snd.bind (lift_snd _) fun p ht => ?_
    obtain ⟨agg, s⟩ := p
    refine Snd.bind (xIdxC_snd _ _ _ _) fun d hd => Snd.pure fun β ac w hx hh hq => ?_
    obtain ⟨g1, g2, g3⟩ := hd
    obtain ⟨r, hr, hs⟩ := mt_cell h1 (rs_mt hΓ (hx x (by simp [Op.operands])))
    obtain ⟨b, o, hv, hm⟩ := g3 β (.pointer (some ⟨r.blk, r.off + off, none⟩)) ⟨r, hr, rfl⟩
    simp only [Value.pointer.injEq, Option.some.injEq, Addr.mk.injEq, and_true] at hv
    obtain ⟨rfl, rfl⟩ := hv
    have hi := (mt_int h2 (rs_mt hΓ (hx ix (by simp [Op.operands])))).1
    refine ⟨_, ?_, mt_of_cell hm⟩
    simp [execOp, Instr.indexAt, hi, asIntOf, underlying, hu, hs, g1, g2, (tyN_isAgg ht w).2.1, add_lit]
  · rename_i e id ks q len k a hu h1 h2
    refine Snd.bind (lift_snd _) fun p ht => ?_
    obtain ⟨agg, s⟩ := p
    simp only
    split
    · rename_i hs
      simp only [beq_iff_eq] at hs
      subst hs
      refine Snd.bind (mkCm_snd _ _ _) fun b1 e1 => Snd.bind (oblige_snd b1) fun _ e2 => Snd.bind (mkCm_snd _ _ _) fun b2 e3 => Snd.bind (oblige_snd b2) fun _ e4 => Snd.pure fun β ac w hx hh hq => ?_
      rw [e1] at e2
      rw [e3] at e4
      replace e2 : 0 ≤ a.d ρ := of_decide_eq_true e2
      replace e4 : a.d ρ < len.d ρ := of_decide_eq_true e4
      obtain ⟨g1, g2, g3⟩ := mt_cell h1 (rs_mt hΓ (hx x (by simp [Op.operands])))
      have hi := (mt_int h2 (rs_mt hΓ (hx ix (by simp [Op.operands])))).1
      rcases g3 with ⟨_, h0, _⟩ | ⟨r, cap, l, hr, hsq, hqe, _, hl, hs⟩
      · omega
      · have hlt : a.d ρ < ((len.d ρ).toNat : Int) := by omega
        refine ⟨.pointer (some ⟨r.blk, r.off + ((a.d ρ).toNat * ks.length + 0), none⟩), ?_, mt_of_cell ⟨e2, r, l, hr, hsq, hqe, ?_, rfl⟩⟩
        · generalize (len.d ρ).toNat = n at hs hlt
          simp [execOp, Instr.indexAt, hi, asIntOf, underlying, hu, hs, e2, hlt, (tyN_isAgg ht w).2.1, add_lit]
        · rw [hl]
          exact Nat.mul_le_mul_right _ (by omega)
    · exact Snd.fail
  · exact Snd.fail

/-- An array's value, or a known string, at an index. -/
def chunksL (s n : Nat) (l : List C) (i : Nat) : Nat → Option (List (List C))
  | 0 => some []
  | len + 1 => if Nat.ble (i * s + n) l.length then match chunksL s n l (i + 1) len with
    | some xs => some ((l.drop (i * s)).take n :: xs)
    | none => none
    else none
theorem chunksL_spec {s n : Nat} {l : List C} : ∀ {len k : Nat} {xs : List (List C)}, chunksL s n l k len = some xs → xs.length = len ∧ ∀ i, i < len → (k + i) * s + n ≤ l.length ∧ xs[i]? = some ((l.drop ((k + i) * s)).take n)
  | 0, k, xs, h => by simp [chunksL] at h; subst h; exact ⟨rfl, fun i hi => by omega⟩
  | len + 1, k, xs, h => by
    unfold chunksL at h
    split at h
    · rename_i hle
      simp only [Nat.ble_eq] at hle
      split at h
      · rename_i ys h2
        simp only [Option.some.injEq] at h
        subst h
        obtain ⟨g1, g2⟩ := chunksL_spec h2
        refine ⟨by simp [g1], fun i hi => ?_⟩
        cases i with
        | zero => simpa using hle
        | succ i =>
          have := g2 i (by omega)
          rwa [show k + 1 + i = k + (i + 1) by omega] at this
      · cases h
    · cases h

def selLit (a : A) (xs : List (List C)) : M (List C) :=
  match allLit xs with
  | some (kd, ns) => if ns.all (inR kd) then do pure [.int kd (← newI (.tab ns a))] else M.fail
  | none => selL a 0 xs
theorem selLit_snd (a : A) (xs : List (List C)) : Snd Φ ρ (selLit a xs) (fun z => ∀ i : Nat, a.d ρ = i → ∀ x, xs[i]? = some x → ∀ β vs, mtL β ρ x vs → mtL β ρ z vs) := by
  unfold selLit
  split
  · rename_i kd ns hal
    split
    · rename_i hall
      refine Snd.bind (newI_snd _) fun z hz => Snd.pure fun i hi x hx β vs h => ?_
      have hxs2 := allLit_spec hal
      rw [hxs2, List.getElem?_map] at hx
      cases hn : ns[i]? with
      | none => rw [hn] at hx; simp at hx
      | some m =>
        rw [hn] at hx
        simp at hx
        subst hx
        have hzd : z.d ρ = m := by
          rw [hz]; simp only [RI.d, hi, Int.toNat_natCast]
          rw [List.getD_eq_getElem?_getD, hn]; rfl
        have hm : inR kd m = true := (List.all_eq_true.1 hall) m (List.mem_of_getElem? hn)
        unfold inR at hm
        simp at hm
        cases vs with
        | nil => exact h.elim
        | cons v vs =>
          refine ⟨?_, h.2⟩
          have h1 : v = .int kd m ∧ InR kd m := h.1
          show v = .int kd (z.d ρ) ∧ InR kd (z.d ρ)
          rw [hzd]
          exact h1
    · exact Snd.fail
  · refine (selL_snd a xs 0).mono fun z hz i hi x hx => ?_
    have hlt : i < xs.length := (List.getElem?_eq_some_iff.1 hx).1
    exact (hz i hi (by omega) (by omega) x (by simpa using hx)).1

def xIndex (P : Program) (t : TypeId) (x ix : S) : M S :=
  match P.underlying t, x, ix with
  | some (.array len e), .one true l, .one false [.int _ a] => do
    let (agg, s) ← lift (tyN P e)
    match a with
    | .c (.ofNat i) => if Nat.blt i len then lift (xPart P e l (i * s)) else M.fail
    | .c _ => M.fail
    | a => do
      let b1 ← mkCm .geq a (.c 0)
      oblige b1
      let b2 ← mkCm .lss a (.c len)
      oblige b2
      let xs ← lift (chunksL s s l 0 len)
      let z ← selLit a xs
      if agg || z.length == 1 then pure (.one agg z) else M.fail
  | some .string, .one false [.val (.string str)], .one false [.int _ a] =>
    match a with
    | .c (.ofNat i) => match str.data.toList[i]? with
      | some b => pure (.one false [.int .u8 (.c b.toNat)])
      | none => M.fail
    | .c _ => M.fail
    | a => do
      let b1 ← mkCm .geq a (.c 0)
      oblige b1
      let b2 ← mkCm .lss a (.c str.data.toList.length)
      oblige b2
      pure (.one false [.int .u8 (← newI (.tab (str.data.toList.map fun b => (b.toNat : Int)) a))])
  | some .string, .one false [.str q], .one false [.int _ a] => do
    let b1 ← mkCm .geq a (.c 0)
    oblige b1
    let n ← newI (.lenq q 1)
    let b2 ← mkCm .lss a n
    oblige b2
    pure (.one false [.int .u8 (← newI (.get q a 1 0))])
  | _, _, _ => M.fail
theorem encS_len (s : ByteArray) : (dec (encS s)).length = s.size := by
  unfold encS; rw [dec_enc]; unfold bytesI; rw [List.length_map, Array.length_toList]; rfl
theorem byte_inR (b : UInt8) : InR .u8 (b.toNat : Int) := by
  have := b.toNat_lt
  unfold InR IntKind.min IntKind.max
  simp [IntKind.signed, IntKind.bits]
  omega
theorem ba_get (s : ByteArray) (i : Nat) : s[i]? = s.data.toList[i]? := by
  rw [Array.getElem?_toList]
  rcases Nat.lt_or_ge i s.size with h | h
  · rw [getElem?_pos s i h, getElem?_pos s.data i h]; rfl
  · rw [getElem?_neg s i (by simpa using h), getElem?_neg s.data i (by simpa using h)]
theorem pure_index (hΓ : Gd.d ρ Γ = true) (t : TypeId) (x ix : Operand) :
    Snd Φ ρ (xIndex P t (rs Γ (rv x)) (rs Γ (rv ix))) (Pure P Γ hp rv ⟨dst, .index t x ix, ty, pos, after, guard⟩ ρ) := by
  unfold xIndex
  split
  · rename_i len e l k a hu h1 h2
    refine Snd.bind (lift_snd _) fun p ht => ?_
    obtain ⟨agg, s⟩ := p
    simp only
    split
    · rename_i i
      split
      · rename_i hlt
        simp only [Nat.blt_eq] at hlt
        refine (lift_snd _).mono fun q hq β ac w hx hh hq2 => ?_
        have hm := rs_mt hΓ (hx x (by simp [Op.operands]))
        rw [h1] at hm
        obtain ⟨vs, hv, hl⟩ := hm
        obtain ⟨v, hr, hsm⟩ := run_part hq hl w
        have hi := (mt_int h2 (rs_mt hΓ (hx ix (by simp [Op.operands])))).1
        refine ⟨v, ?_, hsm⟩
        simp only [A.d_c] at hi
        simp [execOp, Instr.index, hi, asIntOf, underlying, hu, hv, (tyN_isAgg ht w).2.1, hlt, hr]
      · exact Snd.fail
    · exact Snd.fail
    · refine Snd.bind (mkCm_snd _ _ _) fun b1 g1 => Snd.bind (oblige_snd b1) fun _ g2 => Snd.bind (mkCm_snd _ _ _) fun b2 g3 => Snd.bind (oblige_snd b2) fun _ g4 => Snd.bind (lift_snd _) fun xs hxs => Snd.bind (selLit_snd a xs) fun z hz => ?_
      rw [g1] at g2
      rw [g3] at g4
      replace g2 : 0 ≤ a.d ρ := of_decide_eq_true g2
      replace g4 : a.d ρ < len := of_decide_eq_true g4
      obtain ⟨i, hi⟩ := Int.eq_ofNat_of_zero_le g2
      obtain ⟨c1, c2⟩ := chunksL_spec hxs
      obtain ⟨c3, c4⟩ := c2 i (by omega)
      simp only [Nat.zero_add] at c3 c4
      split
      · rename_i hagg
        refine Snd.pure fun β ac w hx hh hq => ?_
        have hm := rs_mt hΓ (hx x (by simp [Op.operands]))
        rw [h1] at hm
        obtain ⟨vs, hv, hl⟩ := hm
        have hq : xPart P e l (i * s) = some (.one agg ((l.drop (i * s)).take s)) := by
          unfold xPart; rw [ht]; simp only []; rw [if_pos (by simpa using c3)]
        obtain ⟨v, hr, hsm⟩ := run_part hq hl w
        have hie := (mt_int h2 (rs_mt hΓ (hx ix (by simp [Op.operands])))).1
        refine ⟨v, ?_, ?_⟩
        · rw [hi] at hie
          have hlt2 : i < len := by omega
          simp [execOp, Instr.index, hie, asIntOf, underlying, hu, hv, (tyN_isAgg ht w).2.1, hlt2, hr]
        · unfold S.mt mt1 at hsm ⊢
          cases agg
          · simp only [Bool.false_eq_true, if_false] at hsm ⊢
            obtain ⟨c, hc, hcm⟩ := hsm
            have := hz i hi _ c4 β [v] (by rw [hc]; exact ⟨hcm, trivial⟩)
            match z, this with
            | [d], ⟨h, _⟩ => exact ⟨d, rfl, h⟩
          · simp only [if_true] at hsm ⊢
            obtain ⟨us, hus, hul⟩ := hsm
            exact ⟨us, hus, hz i hi _ c4 β _ hul⟩
      · exact Snd.fail
  · rename_i str k a hu h1 h2
    split
    · rename_i i
      split
      · rename_i b hb
        refine Snd.pure fun β ac w hx hh hq => ?_
        have hv := (mt_cell h1 (rs_mt hΓ (hx x (by simp [Op.operands])))).1
        have hi := (mt_int h2 (rs_mt hΓ (hx ix (by simp [Op.operands])))).1
        simp only [A.d_c] at hi
        refine ⟨.int .u8 b.toNat, ?_, mt_of_cell ⟨rfl, byte_inR b⟩⟩
        have hb' : str.data[i]? = some b := by rw [← Array.getElem?_toList]; exact hb
        simp [execOp, Instr.index, hi, asIntOf, underlying, hu, hv, ba_get, hb']
      · exact Snd.fail
    · exact Snd.fail
    · refine Snd.bind (mkCm_snd _ _ _) fun b1 g1 => Snd.bind (oblige_snd b1) fun _ g2 => Snd.bind (mkCm_snd _ _ _) fun b2 g3 => Snd.bind (oblige_snd b2) fun _ g4 => Snd.bind (newI_snd _) fun z hz => Snd.pure fun β ac w hx hh hq => ?_
      rw [g1] at g2
      rw [g3] at g4
      replace g2 : 0 ≤ a.d ρ := of_decide_eq_true g2
      replace g4 : a.d ρ < str.data.toList.length := of_decide_eq_true g4
      obtain ⟨i, hi⟩ := Int.eq_ofNat_of_zero_le g2
      have hv := (mt_cell h1 (rs_mt hΓ (hx x (by simp [Op.operands])))).1
      have hie := (mt_int h2 (rs_mt hΓ (hx ix (by simp [Op.operands])))).1
      rw [hi] at hie
      have hlt : i < str.data.toList.length := by omega
      have hb : str.data.toList[i]? = some str.data.toList[i] := List.getElem?_eq_getElem hlt
      have hzd : z.d ρ = (str.data.toList[i].toNat : Int) := by
        rw [hz]; simp only [RI.d, hi, Int.toNat_natCast]
        rw [List.getD_eq_getElem?_getD, List.getElem?_map, hb]; rfl
      refine ⟨.int .u8 (z.d ρ), ?_, mt_of_cell ⟨rfl, by rw [hzd]; exact byte_inR _⟩⟩
      rw [hzd]
      have hb' : str.data[i]? = some str.data.toList[i] := by rw [← Array.getElem?_toList]; exact hb
      generalize str.data.toList[i] = b at *
      simp [execOp, Instr.index, hie, asIntOf, underlying, hu, hv, ba_get, hb']
  · rename_i q k a hu h1 h2
    refine Snd.bind (mkCm_snd _ _ _) fun b1 g1 => Snd.bind (oblige_snd b1) fun _ g2 => Snd.bind (newI_snd _) fun n hn => Snd.bind (mkCm_snd _ _ _) fun b2 g3 => Snd.bind (oblige_snd b2) fun _ g4 => Snd.bind (newI_snd _) fun z hz => Snd.pure fun β ac w hx hh hq => ?_
    rw [g1] at g2
    rw [g3] at g4
    replace g2 : 0 ≤ a.d ρ := of_decide_eq_true g2
    replace g4 : a.d ρ < n.d ρ := of_decide_eq_true g4
    obtain ⟨i, hi⟩ := Int.eq_ofNat_of_zero_le g2
    obtain ⟨str, hv, hqe, _⟩ := mt_cell h1 (rs_mt hΓ (hx x (by simp [Op.operands])))
    have hie := (mt_int h2 (rs_mt hΓ (hx ix (by simp [Op.operands])))).1
    rw [hi] at hie
    have hlt : i < str.data.toList.length := by
      rw [hn] at g4
      simp only [RI.d, hqe, encS_len, Nat.div_one] at g4
      rw [Array.length_toList]
      show i < str.size
      omega
    have hb : str.data.toList[i]? = some str.data.toList[i] := List.getElem?_eq_getElem hlt
    have hzd : z.d ρ = (str.data.toList[i].toNat : Int) := by
      rw [hz]
      simp only [RI.d, hi, Int.toNat_natCast, hqe, encS, dec_enc, bytesI, Nat.mul_one, Nat.add_zero]
      rw [List.getD_eq_getElem?_getD, List.getElem?_map, hb]; rfl
    refine ⟨.int .u8 (z.d ρ), ?_, mt_of_cell ⟨rfl, by rw [hzd]; exact byte_inR _⟩⟩
    rw [hzd]
    have hb' : str.data[i]? = some str.data.toList[i] := by rw [← Array.getElem?_toList]; exact hb
    generalize str.data.toList[i] = b at *
    simp [execOp, Instr.index, hie, asIntOf, underlying, hu, hv, ba_get, hb']
  · exact Snd.fail

/-! ### min, max, len -/
def allInts : List S → Option (IntKind × List A)
  | [.one false [.int k a]] => some (k, [a])
  | .one false [.int k a] :: r => match allInts r with
    | some (l, as) => if k == l then some (k, a :: as) else none
    | none => none
  | _ => none
def foldA (f : A → A → M A) : A → List A → M A
  | a, [] => pure a
  | a, b :: r => do
    let c ← f a b
    foldA f c r
def xMinMax (mx : Bool) (xs : List S) : M S :=
  match allInts xs with
  | some (k, a :: r) => do pure (.one false [.int k (← foldA (if mx then mkMx else mkMn) a r)])
  | _ => M.fail
end ops
end Go.Proofs.YtalnndmnnffnmaaGreat.Sx
/-! ## SxG -/
set_option linter.unusedVariables false
set_option linter.unusedSimpArgs false
namespace Go.Proofs.YtalnndmnnffnmaaGreat.Sx
open Go

section ops
variable {P : Program} {Φ : Funs} {Γ : Gd} {hp : Hp} {rv : Operand → SV} {dst : Option Tmp} {ty : TypeId} {pos : String} {after : Array Edge} {guard : Option (Nat × Bool)} {ρ : Env}

theorem allInts_vals {β : Beta} {ev : Operand → Value} {f : Operand → S} : ∀ {l : List Operand} {k : IntKind} {as : List A}, allInts (l.map f) = some (k, as) → (∀ x, x ∈ l → (f x).mt β ρ (ev x)) →
    l.map ev = as.map (fun a => Value.int k (a.d ρ)) ∧ ∀ a, a ∈ as → InR k (a.d ρ)
  | [], _, _, h, _ => by simp [allInts] at h
  | [x], k, as, h, hx => by
    simp only [List.map_cons, List.map_nil] at h
    unfold allInts at h
    split at h
    · rename_i l a he
      simp only [List.cons.injEq, and_true] at he
      simp only [Option.some.injEq, Prod.mk.injEq] at h
      obtain ⟨rfl, rfl⟩ := h
      obtain ⟨h1, h2⟩ := mt_int he (hx x (by simp))
      simp [h1, h2]
    · rename_i k' a r hne he
      simp only [List.cons.injEq] at he
      obtain ⟨_, rfl⟩ := he
      exact (hne rfl).elim
    · cases h
  | x :: y :: r, k, as, h, hx => by
    simp only [List.map_cons] at h
    unfold allInts at h
    split at h
    · rename_i he; simp at he
    · rename_i k' a r' hne he
      simp only [List.cons.injEq] at he
      obtain ⟨he1, he2⟩ := he
      split at h
      · rename_i l' as' h2
        split at h
        · rename_i hk
          simp only [beq_iff_eq] at hk
          simp only [Option.some.injEq, Prod.mk.injEq] at h
          obtain ⟨rfl, rfl⟩ := h
          subst hk
          obtain ⟨g1, g2⟩ := mt_int he1 (hx x (by simp))
          have ih := allInts_vals (l := y :: r) (k := k') (as := as') (by rw [List.map_cons, he2]; exact h2) (fun z hz => hx z (by simp only [List.mem_cons] at hz ⊢; exact .inr hz))
          refine ⟨by rw [List.map_cons, g1, ih.1, List.map_cons], fun b hb => ?_⟩
          rcases List.mem_cons.1 hb with rfl | hb
          · exact g2
          · exact ih.2 b hb
        · cases h
      · cases h
    · cases h
theorem foldMn_snd (k : IntKind) : ∀ (r : List A) (a : A), Snd Φ ρ (foldA mkMn a r) (fun z => InR k (a.d ρ) → (∀ b, b ∈ r → InR k (b.d ρ)) → InR k (z.d ρ) ∧ ∀ w,
    ((r.map fun b => Value.int k (b.d ρ)).foldlM Builtin.min2 (.int k (a.d ρ))).run P w = .ok (.int k (z.d ρ)) w)
  | [], a => Snd.pure fun h _ => ⟨h, fun w => rfl⟩
  | b :: r, a => by
    unfold foldA
    refine Snd.bind (mkMn_snd a b) fun c hc => (foldMn_snd k r c).mono fun z hz ha hb => ?_
    have hcr : InR k (c.d ρ) := by
      rw [hc]
      split
      · exact hb b (by simp)
      · exact ha
    obtain ⟨h1, h2⟩ := hz hcr fun x hx => hb x (by simp [hx])
    refine ⟨h1, fun w => ?_⟩
    have := h2 w
    rw [hc] at this
    simpa [Builtin.min2] using this
theorem foldMx_snd (k : IntKind) : ∀ (r : List A) (a : A), Snd Φ ρ (foldA mkMx a r) (fun z => InR k (a.d ρ) → (∀ b, b ∈ r → InR k (b.d ρ)) → InR k (z.d ρ) ∧ ∀ w,
    ((r.map fun b => Value.int k (b.d ρ)).foldlM Builtin.max2 (.int k (a.d ρ))).run P w = .ok (.int k (z.d ρ)) w)
  | [], a => Snd.pure fun h _ => ⟨h, fun w => rfl⟩
  | b :: r, a => by
    unfold foldA
    refine Snd.bind (mkMx_snd a b) fun c hc => (foldMx_snd k r c).mono fun z hz ha hb => ?_
    have hcr : InR k (c.d ρ) := by
      rw [hc]
      split
      · exact hb b (by simp)
      · exact ha
    obtain ⟨h1, h2⟩ := hz hcr fun x hx => hb x (by simp [hx])
    refine ⟨h1, fun w => ?_⟩
    have := h2 w
    rw [hc] at this
    simpa [Builtin.max2] using this

def xBuiltin (P : Program) (b : Builtin) (argTypes : Array TypeId) (xs : List S) : M S :=
  match b with
  | .min => xMinMax false xs
  | .max => xMinMax true xs
  | .len => match (argTypes[0]?).bind P.underlying, xs with
    | some .string, [.one false [.val (.string s)]] => if inR .i64 s.size then pure (.one false [.int .i64 (.c s.size)]) else M.fail
    | some (.array n _), [_] => if inR .i64 n then pure (.one false [.int .i64 (.c n)]) else M.fail
    | some (.slice _), [.one false [.sli id off n cap]] => if inR .i64 n then pure (.one false [.int .i64 (.c n)]) else M.fail
    | some (.slice _), [.one false [.slx id ks q len]] => pure (.one false [.int .i64 len])
    | some .string, [.one false [.str q]] => do pure (.one false [.int .i64 (← newI (.lenq q 1))])
    | _, _ => M.fail
  | _ => M.fail
theorem inR_spec {k : IntKind} {n : Int} (h : inR k n = true) : InR k n := by
  unfold inR at h
  simpa [InR] using h
theorem pure_builtin (hΓ : Gd.d ρ Γ = true) (b : Builtin) (args : Array Operand) (argTypes : Array TypeId) :
    Snd Φ ρ (xBuiltin P b argTypes (args.toList.map fun x => rs Γ (rv x))) (Pure P Γ hp rv ⟨dst, .call { callee := .builtin b, args := args, argTypes := argTypes }, ty, pos, after, guard⟩ ρ) := by
  have hops : ∀ x, x ∈ args.toList → x ∈ (Op.call { callee := .builtin b, args := args, argTypes := argTypes }).operands := fun x hx => by
    simp [Op.operands, Call.operands]; simpa using hx
  unfold xBuiltin
  split
  · unfold xMinMax
    split
    · rename_i k a r hai
      refine Snd.bind (foldMn_snd (P := P) k r a) fun z hz => Snd.pure fun β ac w hx hh hq => ?_
      obtain ⟨h1, h2⟩ := allInts_vals hai (fun x hxm => rs_mt hΓ (hx x (hops x hxm)))
      obtain ⟨g1, g2⟩ := hz (h2 a (by simp)) (fun b hb => h2 b (by simp [hb]))
      refine ⟨_, ?_, S.mt_i g1⟩
      have hl : (args.map ac.eval).toList = Value.int k (a.d ρ) :: r.map (fun b => Value.int k (b.d ρ)) := by simpa using h1
      simp only [execOp, resolve, Sem.run_bind, Sem.run_pure, Result.andThen_ok, invoke, builtin, Builtin.min_, hl, g2 w]
    · exact Snd.fail
  · unfold xMinMax
    split
    · rename_i k a r hai
      refine Snd.bind (foldMx_snd (P := P) k r a) fun z hz => Snd.pure fun β ac w hx hh hq => ?_
      obtain ⟨h1, h2⟩ := allInts_vals hai (fun x hxm => rs_mt hΓ (hx x (hops x hxm)))
      obtain ⟨g1, g2⟩ := hz (h2 a (by simp)) (fun b hb => h2 b (by simp [hb]))
      refine ⟨_, ?_, S.mt_i g1⟩
      have hl : (args.map ac.eval).toList = Value.int k (a.d ρ) :: r.map (fun b => Value.int k (b.d ρ)) := by simpa using h1
      simp only [execOp, resolve, Sem.run_bind, Sem.run_pure, Result.andThen_ok, invoke, builtin, Builtin.max_, hl, g2 w]
    · exact Snd.fail
  · have one : ∀ (s : S), args.toList.map (fun x => rs Γ (rv x)) = [s] → ∃ x, args = #[x] ∧ rs Γ (rv x) = s := fun s h => by
      cases hl : args.toList with
      | nil => rw [hl] at h; simp at h
      | cons x r =>
        rw [hl] at h
        simp only [List.map_cons, List.cons.injEq, List.map_eq_nil_iff] at h
        obtain ⟨h1, rfl⟩ := h
        exact ⟨x, by apply Array.toList_inj.1; simpa using hl, h1⟩
    split
    · rename_i s hu hs
      split
      · rename_i hr
        obtain ⟨x, rfl, hx1⟩ := one _ hs
        refine Snd.pure fun β ac w hx hh hq => ⟨_, ?_, mt_of_cell ⟨rfl, inR_spec hr⟩⟩
        have hv := (mt_cell hx1 (rs_mt hΓ (hx x (hops x (by simp))))).1
        cases ha : argTypes[0]? with
        | none => rw [ha] at hu; simp at hu
        | some t =>
          rw [ha] at hu
          simp only [Option.bind_some] at hu
          simp [execOp, resolve, invoke, builtin, Builtin.len_, ha, underlying, hu, hv, goInt]
      · exact Snd.fail
    · rename_i n e s hu hs
      split
      · rename_i hr
        obtain ⟨x, rfl, hx1⟩ := one _ hs
        refine Snd.pure fun β ac w hx hh hq => ⟨_, ?_, mt_of_cell ⟨rfl, inR_spec hr⟩⟩
        cases ha : argTypes[0]? with
        | none => rw [ha] at hu; simp at hu
        | some t =>
          rw [ha] at hu
          simp only [Option.bind_some] at hu
          simp [execOp, resolve, invoke, builtin, Builtin.len_, ha, underlying, hu, goInt]
      · exact Snd.fail
    · rename_i e id off n cap hu hs
      split
      · rename_i hr
        obtain ⟨x, rfl, hx1⟩ := one _ hs
        refine Snd.pure fun β ac w hx hh hq => ⟨_, ?_, mt_of_cell ⟨rfl, inR_spec hr⟩⟩
        obtain ⟨r, _, hv⟩ := mt_cell hx1 (rs_mt hΓ (hx x (hops x (by simp))))
        cases ha : argTypes[0]? with
        | none => rw [ha] at hu; simp at hu
        | some t =>
          rw [ha] at hu
          simp only [Option.bind_some] at hu
          simp [execOp, resolve, invoke, builtin, Builtin.len_, ha, underlying, hu, hv, goInt]
      · exact Snd.fail
    · rename_i e id ks q len hu hs
      obtain ⟨x, rfl, hx1⟩ := one _ hs
      refine Snd.pure fun β ac w hx hh hq => ?_
      obtain ⟨g1, g2, g3⟩ := mt_cell hx1 (rs_mt hΓ (hx x (hops x (by simp))))
      refine ⟨.int .i64 (len.d ρ), ?_, mt_of_cell ⟨rfl, g2⟩⟩
      cases ha : argTypes[0]? with
      | none => rw [ha] at hu; simp at hu
      | some t =>
        rw [ha] at hu
        simp only [Option.bind_some] at hu
        rcases g3 with ⟨_, h0, p, cap, hv⟩ | ⟨r, cap, l, _, _, _, _, _, hv⟩
        · simp [execOp, resolve, invoke, builtin, Builtin.len_, ha, underlying, hu, hv, goInt, h0]
        · simp [execOp, resolve, invoke, builtin, Builtin.len_, ha, underlying, hu, hv, goInt, Int.toNat_of_nonneg g1]
    · rename_i q hu hs
      obtain ⟨x, rfl, hx1⟩ := one _ hs
      refine Snd.bind (newI_snd _) fun z hz => Snd.pure fun β ac w hx hh hq => ?_
      obtain ⟨str, hv, g2, g3⟩ := mt_cell hx1 (rs_mt hΓ (hx x (hops x (by simp))))
      have hzd : z.d ρ = (str.size : Int) := by rw [hz]; simp only [RI.d, g2, encS_len, Nat.div_one]
      refine ⟨.int .i64 (z.d ρ), ?_, mt_of_cell ⟨rfl, by rw [hzd]; exact g3⟩⟩
      rw [hzd]
      cases ha : argTypes[0]? with
      | none => rw [ha] at hu; simp at hu
      | some t =>
        rw [ha] at hu
        simp only [Option.bind_some] at hu
        simp [execOp, resolve, invoke, builtin, Builtin.len_, ha, underlying, hu, hv, goInt]
    · exact Snd.fail
  · exact Snd.fail

/-! ### Literals -/
def setAt (l : List C) (off : Nat) (new : List C) : List C := l.take off ++ new ++ l.drop (off + new.length)
theorem mtL_append {β : Beta} : ∀ {l m : List C} {vs us : List Value}, mtL β ρ l vs → mtL β ρ m us → mtL β ρ (l ++ m) (vs ++ us)
  | [], _, [], _, _, h => h
  | _ :: _, _, _ :: _, _, ⟨h1, h2⟩, h => ⟨h1, mtL_append h2 h⟩
theorem mtL_setAt {β : Beta} {l : List C} {vs : List Value} {off : Nat} {new : List C} {us : List Value} (h : mtL β ρ l vs) (hn : mtL β ρ new us) :
    mtL β ρ (setAt l off new) (vs.take off ++ us ++ vs.drop (off + us.length)) := by
  unfold setAt
  rw [mtL_length hn]
  exact mtL_append (mtL_append (mtL_take _ h) hn) (mtL_drop _ h)
def S.cells : S → Option (List C)
  | .one _ l => some l
  | _ => none
def xFill (place : Nat → Option (Nat × Nat)) (cells : List C) : List (Nat × S) → Option (List C)
  | [] => some cells
  | (i, s) :: rest => match place i, s.cells with
    | some (off, size), some l => if l.length == size && Nat.ble (off + size) cells.length then xFill place (setAt cells off l) rest else none
    | _, _ => none
theorem foldl_set (off : Nat) : ∀ (vs : List Value) (k : Nat) (cs : Array Value), off + k + vs.length ≤ cs.size →
    ((vs.zipIdx k).foldl (fun (cs : Array Value) (p : Value × Nat) => cs.setIfInBounds (off + p.2) p.1) cs).toList = cs.toList.take (off + k) ++ vs ++ cs.toList.drop (off + k + vs.length)
  | [], k, cs, h => by simp
  | v :: vs, k, cs, h => by
    simp only [List.length_cons] at h
    rw [List.zipIdx_cons, List.foldl_cons, foldl_set off vs (k + 1) _ (by simp; omega)]
    simp only [Array.toList_setIfInBounds, List.length_cons]
    have hlt : off + k < cs.toList.length := by simp; omega
    rw [List.take_set, List.drop_set, if_pos (by omega)]
    rw [show off + (k + 1) = (off + k) + 1 by omega, List.take_succ_eq_append_getElem hlt, List.set_append]
    simp only [List.length_take, Nat.min_eq_left (Nat.le_of_lt hlt), Nat.lt_irrefl, if_false, Nat.sub_self, List.set_cons_zero, List.append_assoc, List.cons_append, List.nil_append]
    rw [show off + k + 1 + vs.length = off + k + (vs.length + 1) by omega]
theorem fill_spec {place : Nat → Option (Nat × Nat)} {β : Beta} : ∀ {parts : List (Nat × S)} {vals : List (Nat × Value)} {cells : List C} {vs : Array Value} {out : List C},
    xFill place cells parts = some out → (parts.length = vals.length ∧ ∀ (j i : Nat) (s : S) (v : Value), parts[j]? = some (i, s) → ∀ (i' : Nat), vals[j]? = some (i', v) → i' = i ∧ s.mt β ρ v) → mtL β ρ cells vs.toList →
    ∃ us, Instr.fill place vs vals = some us ∧ mtL β ρ out us.toList
  | [], vals, cells, vs, out, h, hp, hm => by
    have : vals = [] := by cases vals; rfl; simp at hp
    subst this
    simp only [xFill, Option.some.injEq] at h
    subst h
    exact ⟨vs, rfl, hm⟩
  | (i, s) :: parts, vals, cells, vs, out, h, hp, hm => by
    cases vals with
    | nil => simp at hp
    | cons p vals =>
      obtain ⟨i', v⟩ := p
      obtain ⟨hlen, hp⟩ := hp
      obtain ⟨rfl, hsv⟩ := hp 0 i s v (by simp) i' (by simp)
      unfold xFill at h
      split at h
      · rename_i off size l h1 h2
        split at h
        · rename_i hc
          simp only [Bool.and_eq_true, beq_iff_eq, Nat.ble_eq] at hc
          obtain ⟨hc1, hc2⟩ := hc
          cases s with
          | one agg l' =>
            simp only [S.cells, Option.some.injEq] at h2
            subst h2
            have hml := mtL_cells hsv
            have hl2 := mtL_length hml
            have hl3 := mtL_length hm
            have hsz : v.cells.size = size := by rw [← Array.length_toList]; omega
            have e2 : vs.toList.length = vs.size := Array.length_toList
            have e3 : v.cells.toList.length = v.cells.size := Array.length_toList
            have hle : off + 0 + v.cells.toList.length ≤ vs.size := by rw [e3, hsz]; omega
            have key := foldl_set off v.cells.toList 0 vs hle
            obtain ⟨us, hus, hum⟩ := fill_spec (vals := vals) (vs := v.cells.zipIdx.foldl (fun cs (c, j) => cs.setIfInBounds (off + j) c) vs) h
              ⟨by simpa using hlen, fun j a b c hj i' hv => hp (j + 1) a b c (by simpa using hj) i' (by simpa using hv)⟩ (by
                rw [← Array.foldl_toList, Array.toList_zipIdx, key, Nat.add_zero]
                have := mtL_setAt (off := off) hm hml
                exact this)
            refine ⟨us, ?_, hum⟩
            unfold Instr.fill
            rw [h1]
            simp only
            have hno : ¬ ((decide (v.cells.size ≠ size) || decide (off + v.cells.size > vs.size)) = true) := by simp; omega
            rw [if_neg hno]
            exact hus
          | tup _ => simp [S.cells] at h2
          | any => simp [S.cells] at h2
        · cases h
      · cases h

def zeroC (P : Program) (t : TypeId) : Option (List C) :=
  match (P.info? t).bind (·.zero) with
  | some v => if v.cells.toList.all oneCell then some (v.cells.toList.map ofC) else none
  | none => none
theorem zeroC_spec {t : TypeId} {l : List C} (h : zeroC P t = some l) (w : World) : ∃ v, (zeroValue t).run P w = .ok v w ∧ ∀ β, mtL β ρ l v.cells.toList := by
  unfold zeroC at h
  split at h
  · rename_i v hv
    split at h
    · rename_i ha
      simp only [Option.some.injEq] at h
      subst h
      cases hi : P.info? t with
      | none => rw [hi] at hv; simp at hv
      | some i =>
        rw [hi] at hv
        simp only [Option.bind_some] at hv
        exact ⟨v, by simp [zeroValue, typeInfo, hi, hv], fun β => mtL_ofC ha⟩
    · cases h
  · cases h

def sizeN (P : Program) (t : TypeId) : Option Nat := (P.info? t).map (·.size)
theorem sizeN_spec {t : TypeId} {n : Nat} (h : sizeN P t = some n) (w : World) : (sizeOf t).run P w = .ok n w := by
  unfold sizeN at h
  cases hi : P.info? t with
  | none => rw [hi] at h; simp at h
  | some i => rw [hi] at h; simp at h; simp [sizeOf, typeInfo, hi, h]
def structPlaces (P : Program) : List Field → Option (List (Nat × Nat))
  | [] => some []
  | f :: fs => match sizeN P f.type, structPlaces P fs with
    | some n, some r => some ((f.offset, n) :: r)
    | _, _ => none
theorem structPlaces_spec : ∀ {fs : List Field} {r : List (Nat × Nat)}, structPlaces P fs = some r → ∀ w, (fs.mapM fun f => do pure (f.offset, ← sizeOf f.type) : Sem (List (Nat × Nat))).run P w = .ok r w
  | [], r, h, w => by simp [structPlaces] at h; subst h; rfl
  | f :: fs, r, h, w => by
    unfold structPlaces at h
    split at h
    · rename_i n r' h1 h2
      simp only [Option.some.injEq] at h
      subst h
      rw [List.mapM_cons]
      simp only [Sem.run_bind, sizeN_spec h1 w, Result.andThen_ok, Sem.run_pure, structPlaces_spec h2 w]
    · cases h
def xBuild (P : Program) (t : TypeId) (parts : List (Nat × S)) : M S := do
  let z ← lift (zeroC P t)
  match P.underlying t with
  | some (.struct fs) => do
    let pl ← lift (structPlaces P fs.toList)
    pure (.one true (← lift (xFill (fun i => pl[i]?) z parts)))
  | some (.array _ e) => do
    let s ← lift (sizeN P e)
    pure (.one true (← lift (xFill (fun i => some (i * s, s)) z parts)))
  | _ => M.fail
theorem partsMt {β : Beta} {ac : Act} {parts : List (Nat × Operand)} (hΓ : Gd.d ρ Γ = true) (h : ∀ x, x ∈ parts.map (·.2) → (rv x).mt β ρ (ac.eval x)) :
    (parts.map fun p => (p.1, rs Γ (rv p.2))).length = (parts.map fun (i, x) => (i, ac.eval x)).length ∧ ∀ (j i : Nat) (s : S) (v : Value), (parts.map fun p => (p.1, rs Γ (rv p.2)))[j]? = some (i, s) → ∀ (i' : Nat), (parts.map fun (i, x) => (i, ac.eval x))[j]? = some (i', v) → i' = i ∧ s.mt β ρ v := by
  refine ⟨by simp, fun j i s v hj i' hv => ?_⟩
  rw [List.getElem?_map] at hj hv
  cases hp : parts[j]? with
  | none => rw [hp] at hj; simp at hj
  | some p =>
    rw [hp] at hj hv
    simp only [Option.map_some, Option.some.injEq, Prod.mk.injEq] at hj hv
    obtain ⟨rfl, rfl⟩ := hj
    obtain ⟨rfl, rfl⟩ := hv
    exact ⟨rfl, rs_mt hΓ (h _ (List.mem_map.2 ⟨p, List.mem_of_getElem? hp, rfl⟩))⟩
theorem pure_build (hΓ : Gd.d ρ Γ = true) (t : TypeId) (parts : Array (Nat × Operand)) :
    Snd Φ ρ (xBuild P t (parts.toList.map fun p => (p.1, rs Γ (rv p.2)))) (Pure P Γ hp rv ⟨dst, .build t parts, ty, pos, after, guard⟩ ρ) := by
  unfold xBuild
  refine Snd.bind (lift_snd _) fun z hz => ?_
  split
  · rename_i fs hu
    refine Snd.bind (lift_snd _) fun pl hpl => Snd.bind (lift_snd _) fun out hout => Snd.pure fun β ac w hx hh hq => ?_
    obtain ⟨v, hv, hvm⟩ := zeroC_spec (ρ := ρ) hz w
    obtain ⟨us, hus, hum⟩ := fill_spec (β := β) (vs := v.cells) hout (partsMt hΓ fun x hxm => hx x (by simpa [Op.operands] using hxm)) (hvm β)
    refine ⟨.agg us, ?_, us, rfl, hum⟩
    have hm : (fs.mapM fun f => do pure (f.offset, ← sizeOf f.type) : Sem (Array (Nat × Nat))).run P w = .ok pl.toArray w := by
      rw [Array.mapM_eq_mapM_toList, Sem.run_map, structPlaces_spec hpl w]
      rfl
    have hpl2 : (fun (i : Nat) => pl.toArray[i]?) = fun (i : Nat) => pl[i]? := by funext i; simp
    simp only [execOp, Instr.build, Sem.run_bind, hv, Result.andThen_ok, underlying, run_program, hu, Sem.run_pure, hm]
    rw [hpl2]
    simp only [Array.toList_map]
    rw [hus]
    simp
  · rename_i n e hu
    refine Snd.bind (lift_snd _) fun s hs => Snd.bind (lift_snd _) fun out hout => Snd.pure fun β ac w hx hh hq => ?_
    obtain ⟨v, hv, hvm⟩ := zeroC_spec (ρ := ρ) hz w
    obtain ⟨us, hus, hum⟩ := fill_spec (β := β) (vs := v.cells) hout (partsMt hΓ fun x hxm => hx x (by simpa [Op.operands] using hxm)) (hvm β)
    refine ⟨.agg us, ?_, us, rfl, hum⟩
    simp only [execOp, Instr.build, Sem.run_bind, hv, Result.andThen_ok, underlying, run_program, hu, Sem.run_pure, sizeN_spec hs w]
    simp only [Array.toList_map]
    rw [hus]
    simp
  · exact Snd.fail
end ops
end Go.Proofs.YtalnndmnnffnmaaGreat.Sx
/-! ## SxH -/
set_option linter.unusedVariables false
set_option linter.unusedSimpArgs false
namespace Go.Proofs.YtalnndmnnffnmaaGreat.Sx
open Go

section ops
variable {P : Program} {Φ : Funs} {G : Beta → World → Prop} {Γ : Gd} {hp : Hp} {rv : Operand → SV} {dst : Option Tmp} {ty : TypeId} {pos : String} {after : Array Edge} {guard : Option (Nat × Bool)}

/-! ### New variables -/
theorem cellsAt_new {β : Beta} {ρ : Env} (w : World) (cs : Array Value) (t : TypeId) {l : List C} (h : mtL β ρ l cs.toList) : cellsAt β ρ (w.alloc (.cells cs t)) w.heap.size 0 l := by
  rw [cellsAt_iff]
  intro j c hj
  obtain ⟨v, hv, hm⟩ := mtL_get h j c hj
  exact ⟨v, by simpa using hv, hm⟩
/-- A new variable's step. -/
theorem step_new {N : Nat} {R : List Rg} {β : Beta} {ρ : Env} {w : World} {lo hi id : Nat} (hlo : lo ≤ id) (hhi : id < hi) (hn : β id = none) (hb : BetaOk N R β w) (hN : N ≤ w.heap.size)
    (cs : Array Value) (t : TypeId) {l : List C} (hm : mtL β ρ l cs.toList) :
    Step N R β w [id] lo hi (β.set id { blk := w.heap.size, off := 0, len := l.length, ro := false }) (w.alloc (.cells cs t)) ∧
      blkMt (β.set id { blk := w.heap.size, off := 0, len := l.length, ro := false }) ρ (w.alloc (.cells cs t)) id { g := [], ro := false, cells := l } := by
  have he := Beta.set_ext (r := { blk := w.heap.size, off := 0, len := l.length, ro := false }) hn
  refine ⟨⟨he, hb.alloc hN _ _, ⟨[], by simp, Keep.alloc _ _ _⟩, fun i hi' => ?_⟩, ?_⟩
  · unfold Beta.set; rw [if_neg (by omega)]
  · refine ⟨_, Beta.set_same _ _ _, rfl, rfl, cellsAt_new w cs t (mtL_ext he hm), fun _ j hj => ?_⟩
    simp
theorem newVar_run (t : TypeId) (v : Value) (w : World) : (newVar t v).run P w = .ok ⟨w.heap.size, 0, none⟩ (w.alloc (.cells v.cells t)) := by
  simp [newVar, newRow]

def mkNew (l : List C) : M Res := do
  let id ← newId
  pure { s := .one false [.ptr [] id 0], w := [(id, { g := [], ro := false, cells := l })] }
theorem mkNew_ok {o : Oper} {l : List C} (h : ∀ ρ, Gd.d ρ Γ = true → ∀ (β : Beta) (a : Act) (w : World), (∀ x, x ∈ o.op.operands → (rv x).mt β ρ (a.eval x)) →
    ∃ cs t, (execOp a.eval o).run P w = .ok (.value (.pointer (some ⟨w.heap.size, 0, none⟩))) (w.alloc (.cells cs t)) ∧ mtL β ρ l cs.toList) : LOk P Φ G Γ hp rv o (mkNew l) := by
  intro ρ c res c' out he hg hΓ N R β a w hx hh hb hN hG hf
  simp only [mkNew, newId, Bind.bind, M.bind, Pure.pure, M.pure, Option.some.injEq, Prod.mk.injEq] at he
  obtain ⟨rfl, rfl, rfl⟩ := he
  obtain ⟨cs, t, hr, hm⟩ := h ρ hΓ β a w hx
  obtain ⟨h1, h2⟩ := step_new (lo := c.id) (hi := c.id + 1) (Nat.le_refl _) (by omega) (hf c.id (Nat.le_refl _) (by simp)) hb hN cs t hm
  refine OpG.value hr ⟨_, h1, ⟨_, rfl, _, Beta.set_same _ _ _, rfl⟩, ?_⟩
  intro p hp'
  simp only [List.mem_singleton] at hp'
  subst hp'
  exact h2

def xAlloc (P : Program) (t : TypeId) : M Res := match zeroC P t with
  | some l => mkNew l
  | none => M.fail
theorem ok_alloc (t : TypeId) : LOk P Φ G Γ hp rv ⟨dst, .alloc t, ty, pos, after, guard⟩ (xAlloc P t) := by
  unfold xAlloc
  split
  · rename_i l hl
    refine mkNew_ok fun ρ hΓ β a w hx => ?_
    obtain ⟨v, hv, hm⟩ := zeroC_spec (ρ := ρ) hl w
    exact ⟨v.cells, t, by simp [execOp, Instr.alloc, hv, newVar_run], hm β⟩
  · exact LOk.fail
def xBox (x : S) : M Res := match x.cells with
  | some l => mkNew l
  | none => M.fail
theorem ok_box (t : TypeId) (x : Operand) : LOk P Φ G Γ hp rv ⟨dst, .box t x, ty, pos, after, guard⟩ (xBox (rs Γ (rv x))) := by
  unfold xBox
  split
  · rename_i l hl
    refine mkNew_ok fun ρ hΓ β a w hx => ?_
    have hm := rs_mt hΓ (hx x (by simp [Op.operands]))
    cases hs : rs Γ (rv x) with
    | one agg l' =>
      rw [hs] at hm hl
      simp only [S.cells, Option.some.injEq] at hl
      subst hl
      exact ⟨(a.eval x).cells, t, by simp [execOp, Instr.box, newVar_run], mtL_cells hm⟩
    | tup _ => rw [hs] at hl; simp [S.cells] at hl
    | any => rw [hs] at hl; simp [S.cells] at hl
  · exact LOk.fail

/-! ### A slice's literal -/
def repeatL (z : List C) : Nat → List C
  | 0 => []
  | n + 1 => z ++ repeatL z n
def sliceElem (P : Program) (t : TypeId) : Option TypeId := match P.underlying t with | some (.slice e) => some e | _ => none
def xBuildSlice (P : Program) (t : TypeId) (len : Nat) (parts : List (Nat × S)) : M Res := do
  let e ← lift (sliceElem P t)
  let s ← lift (sizeN P e)
  let z ← lift (zeroC P e)
  if z.length == s && Nat.ble 1 s && Nat.ble 1 len && Nat.ble (len * s) 4096 then do
    let l ← lift (xFill (fun i => some (i * s, s)) (repeatL z len) parts)
    let id ← newId
    pure { s := .one false [.sli id 0 len len], w := [(id, { g := [], ro := false, cells := l })] }
  else M.fail
theorem repeatL_mt {β : Beta} {ρ : Env} {z : List C} {vs : List Value} (h : mtL β ρ z vs) (hs : 1 ≤ vs.length) : ∀ n, mtL β ρ (repeatL z n) ((List.range (n * vs.length)).map fun i => (vs.toArray)[i % vs.toArray.size]!)
  | 0 => by simp [repeatL, mtL]
  | n + 1 => by
    have e : (List.range ((n + 1) * vs.length)).map (fun i => (vs.toArray)[i % vs.toArray.size]!) = vs ++ (List.range (n * vs.length)).map (fun i => (vs.toArray)[i % vs.toArray.size]!) := by
      rw [show (n + 1) * vs.length = vs.length + n * vs.length by rw [Nat.add_mul]; omega, List.range_add, List.map_append, List.map_map]
      congr 1
      · apply List.ext_getElem
        · simp
        · intro i h1 h2
          simp at h1
          simp [Nat.mod_eq_of_lt h1, h1]
      · apply List.map_congr_left
        intro i _
        simp
    rw [e]
    exact mtL_append h (repeatL_mt h hs n)
theorem snd_lift_inv {α β : Type} {o : Option α} {f : α → M β} {c : Ctr} {r : β × Ctr × List Em} (h : (lift o >>= f) c = some r) : ∃ x, o = some x ∧ f x c = some r := by
  cases o with
  | none => simp [lift, Bind.bind, M.bind, M.fail] at h
  | some x =>
    refine ⟨x, rfl, ?_⟩
    simp only [lift, Bind.bind, M.bind, Pure.pure, M.pure] at h
    cases hf : f x c with
    | none => rw [hf] at h; cases h
    | some y => rw [hf] at h; simpa using h
theorem ok_buildSlice (t : TypeId) (len : Nat) (parts : Array (Nat × Operand)) : LOk P Φ G Γ hp rv ⟨dst, .buildSlice t len parts, ty, pos, after, guard⟩
    (xBuildSlice P t len (parts.toList.map fun p => (p.1, rs Γ (rv p.2)))) := by
  intro ρ c res c' out he hg hΓ N R β a w hx hh hb hN hG hf
  unfold xBuildSlice at he
  obtain ⟨e, h1, he⟩ := snd_lift_inv he
  obtain ⟨s, h2, he⟩ := snd_lift_inv he
  obtain ⟨z, h3, he⟩ := snd_lift_inv he
  split at he
  · rename_i hc
    simp only [Bool.and_eq_true, beq_iff_eq, Nat.ble_eq] at hc
    obtain ⟨⟨⟨hc1, hc2⟩, hc3⟩, hc4⟩ := hc
    obtain ⟨l, h4, he⟩ := snd_lift_inv he
    simp only [newId, Bind.bind, M.bind, Pure.pure, M.pure, Option.some.injEq, Prod.mk.injEq] at he
    obtain ⟨rfl, rfl, rfl⟩ := he
    obtain ⟨v, hv, hm⟩ := zeroC_spec (ρ := ρ) h3 w
    have hzl := mtL_length (hm β)
    have hvs : v.cells.size = s := by rw [← Array.length_toList]; omega
    have hrep := repeatL_mt (hm β) (by omega) len
    have harr : ((Array.range (len * s)).map fun i => v.cells[i % v.cells.size]!).toList = (List.range (len * v.cells.toList.length)).map fun i => (v.cells.toList.toArray)[i % v.cells.toList.toArray.size]! := by
      simp [hvs]
    rw [← harr] at hrep
    obtain ⟨us, hus, hum⟩ := fill_spec (β := β) h4 (partsMt hΓ fun x hxm => hx x (by simpa [Op.operands] using hxm)) hrep
    obtain ⟨g1, g2⟩ := step_new (lo := c.id) (hi := c.id + 1) (Nat.le_refl _) (by omega) (hf c.id (Nat.le_refl _) (by simp)) hb hN us e hum
    have hu : P.underlying t = some (.slice e) := by
      unfold sliceElem at h1
      split at h1
      · rename_i hu; simp only [Option.some.injEq] at h1; subst h1; exact hu
      · cases h1
    have hle : ¬ (len * s > 2 ^ 24) := by omega
    have hne : ¬ (len * s = 0) := by
      intro h0
      rcases Nat.mul_eq_zero.1 h0 with h | h <;> omega
    refine OpG.value (v := .slice (some ⟨w.heap.size, 0, none⟩) len len) (w' := w.alloc (.cells us e)) ?_ ⟨_, g1, ⟨_, rfl, _, Beta.set_same _ _ _, rfl⟩, ?_⟩
    · simp only [execOp, Instr.buildSlice, Sem.run_bind, underlying, run_program, Result.andThen_ok, hu, Sem.run_pure, sizeN_spec h2 w, Sem.run_ite, hle, hne, if_false, hv]
      simp only [Array.toList_map]
      rw [hus]
      simp [newRow]
    · intro p hp'
      simp only [List.mem_singleton] at hp'
      subst hp'
      exact g2
  · cases he

/-! ### Stores -/
def Hp.set (hp : Hp) (id : Nat) (b : Blk) : Hp := fun i => if i == id then some b else hp i
def stOne (Γ : Gd) (hp : Hp) (e : B) (id off : Nat) (new : List C) : M Hp :=
  match hp id with
  | some b => if Gd.sub b.g Γ && !b.ro && Nat.ble (off + new.length) b.cells.length then do
      let z ← (match e with | .c true => pure new | e => muxL e new ((b.cells.drop off).take new.length))
      pure (hp.set id { b with cells := setAt b.cells off z })
    else M.fail
  | none => M.fail
def stAlt (Γ : Gd) (new : List C) : Hp → B → List (B × Nat × Nat) → Nat → Nat → M Hp
  | hp, rest, [], id, off => stOne Γ hp rest id off new
  | hp, rest, (b, i, o) :: l, id, off => do
    let e ← mkAnd rest b
    let nb ← mkNot b
    let rest' ← mkAnd rest nb
    let hp' ← stOne Γ hp e i o new
    stAlt Γ new hp' rest' l id off

theorem cellsAt_setAt {β : Beta} {ρ : Env} {w w' : World} {b o off : Nat} {l z : List C} (hle : off + z.length ≤ l.length) (hc : cellsAt β ρ w b o l)
    (hz : cellsAt β ρ w' b (o + off) z) (hk : ∀ j, (j < off ∨ off + z.length ≤ j) → j < l.length → w'.cell? ⟨b, o + j, none⟩ = w.cell? ⟨b, o + j, none⟩) :
    cellsAt β ρ w' b o (setAt l off z) := by
  rw [cellsAt_iff] at *
  intro j c hj
  unfold setAt at hj
  rw [List.append_assoc] at hj
  by_cases h1 : j < off
  · rw [List.getElem?_append_left (by simp; omega), List.getElem?_take, if_pos h1] at hj
    obtain ⟨v, hv, hm⟩ := hc j c hj
    exact ⟨v, by rw [hk j (.inl h1) (by omega)]; exact hv, hm⟩
  · rw [List.getElem?_append_right (by simp; omega)] at hj
    simp only [List.length_take, Nat.min_eq_left (show off ≤ l.length by omega)] at hj
    by_cases h2 : j < off + z.length
    · rw [List.getElem?_append_left (by omega)] at hj
      have := hz (j - off) c hj
      rwa [show o + off + (j - off) = o + j by omega] at this
    · rw [List.getElem?_append_right (by omega), List.getElem?_drop] at hj
      have e : off + z.length + (j - off - z.length) = j := by omega
      rw [e] at hj
      obtain ⟨v, hv, hm⟩ := hc j c hj
      exact ⟨v, by rw [hk j (.inr (by omega)) (List.getElem?_eq_some_iff.1 hj).1]; exact hv, hm⟩

/-- What one store does, wherever it goes. -/
structure Stored (β : Beta) (ρ : Env) (w w' : World) (id off : Nat) (new : List C) (r : Rg) : Prop where
  at_ : β id = some r
  ro : r.ro = false
  le : off + new.length ≤ r.len
  cells : cellsAt β ρ w' r.blk (r.off + off) new
  keep : Keep [{ blk := r.blk, off := r.off + off, len := new.length, ro := false }] w w'
  other : ∀ a : Addr, ¬ inRg { blk := r.blk, off := r.off + off, len := new.length, ro := false } a → w'.cell? a = w.cell? a
  live : ∃ j v, w.cell? ⟨r.blk, j, none⟩ = some v

theorem Stored.apart {N : Nat} {R : List Rg} {β : Beta} {ρ : Env} {w w' : World} {id off : Nat} {new : List C} {r : Rg} (h : Stored β ρ w w' id off new r) (hb : BetaOk N R β w) {i : Nat} (hi : i ≠ id) {b : Blk}
    (hm : blkMt β ρ w i b) : blkMt β ρ w' i b := by
  refine blkMt_keep (Ext.refl β) hb h.keep (fun q q' hq hq' => ?_) hm
  simp only [List.mem_singleton] at hq
  subst hq
  have h1 := (hb.apart id i r q' (Ne.symm hi) h.at_ hq').resolve_left fun hh => by have := h.ro; rw [hh.1] at this; cases this
  have h2 := h.le
  unfold Rg.apart at *
  simp only at *
  omega

theorem setAt_length {l z : List C} {off : Nat} (h : off + z.length ≤ l.length) : (setAt l off z).length = l.length := by
  unfold setAt; simp; omega
theorem blk_setAt {β : Beta} {ρ : Env} {w w' : World} {i : Nat} {b : Blk} {off : Nat} {z : List C} (hle : off + z.length ≤ b.cells.length) (hm : blkMt β ρ w i b)
    (hz : ∀ r, β i = some r → cellsAt β ρ w' r.blk (r.off + off) z) (hk : ∀ r j, β i = some r → (j < off ∨ off + z.length ≤ j) → j < b.cells.length → w'.cell? ⟨r.blk, r.off + j, none⟩ = w.cell? ⟨r.blk, r.off + j, none⟩)
    (hf : ∀ r j, β i = some r → w'.frozen? ⟨r.blk, j, none⟩ = w.frozen? ⟨r.blk, j, none⟩) : blkMt β ρ w' i { b with cells := setAt b.cells off z } := by
  obtain ⟨r, hr, hl, hro, hc, hfr⟩ := hm
  refine ⟨r, hr, by simp only [setAt_length hle]; exact hl, hro, cellsAt_setAt hle hc (hz r hr) (fun j hj hj2 => hk r j hr hj hj2), fun h0 j hj => ?_⟩
  simp only [setAt_length hle] at hj
  rw [hf r _ hr]
  exact hfr h0 j hj

/-- One block behind a store: it went there, if 'e'. -/
theorem stOne_snd {N : Nat} {R : List Rg} {β : Beta} {ρ : Env} (hΓ : Gd.d ρ Γ = true) {w w' : World} {id off : Nat} {new : List C} {r : Rg} (hs : Stored β ρ w w' id off new r) (hb : BetaOk N R β w) (e : B) (i o : Nat) (rest : Bool)
    (he1 : e.d ρ = true → rest = true ∧ i = id ∧ o = off) :
    Snd Φ ρ (stOne Γ hp e i o new) (fun hp' => heapMt β ρ hp (if rest then w else w') → heapMt β ρ hp' (if rest && !(e.d ρ) then w else w')) := by
  unfold stOne
  split
  · rename_i b hbk
    split
    · rename_i hc
      simp only [Bool.and_eq_true, Bool.not_eq_true', Nat.ble_eq] at hc
      obtain ⟨⟨hc1, hc2⟩, hc3⟩ := hc
      refine Snd.bind (p := fun z => z.length = new.length ∧ ∀ β w k q, (if e.d ρ then cellsAt β ρ w k q new else cellsAt β ρ w k q ((b.cells.drop o).take new.length)) → cellsAt β ρ w k q z) ?_ fun z hz => Snd.pure fun hh => ?_
      · split
        · exact Snd.pure ⟨rfl, fun β w k q h => by simpa using h⟩
        · refine (muxL_snd _ _ _).mono fun z hz => ⟨hz.1, hz.2.2.2⟩
      · obtain ⟨hz1, hz2⟩ := hz
        have hle : o + z.length ≤ b.cells.length := by omega
        have hbg := Gd.sub_d hc1 hΓ
        have hmi := hh i b hbk hbg
        intro j bj hj hg
        unfold Hp.set at hj
        cases hed : e.d ρ
        · simp only [Bool.not_false, Bool.and_true]
          by_cases hji : j = i
          · subst hji
            simp only [BEq.rfl, if_true, Option.some.injEq] at hj
            subst hj
            refine blk_setAt hle hmi (fun q hq => hz2 _ _ _ _ ?_) (fun _ _ _ _ _ => rfl) (fun _ _ _ => rfl)
            rw [if_neg (by simp [hed])]
            obtain ⟨q', hq', _, _, hcs, _⟩ := hmi
            rw [hq] at hq'
            cases hq'
            rw [cellsAt_iff] at *
            intro k c hk
            rw [List.getElem?_take] at hk
            split at hk
            · rw [List.getElem?_drop] at hk
              have := hcs _ _ hk
              rwa [← Nat.add_assoc] at this
            · cases hk
          · have hne : (j == i) = false := by simpa using hji
            rw [hne] at hj
            exact hh j bj hj hg
        · obtain ⟨hrest, rfl, rfl⟩ := he1 hed
          simp only [hrest, Bool.not_true, Bool.and_false, Bool.false_eq_true, if_false, if_true] at hh hmi ⊢
          by_cases hji : j = i
          · subst hji
            simp only [BEq.rfl, if_true, Option.some.injEq] at hj
            subst hj
            have hpl := hb.place j r hs.at_
            refine blk_setAt hle hmi (fun q hq => hz2 _ _ _ _ ?_) (fun q k hq hk hk2 => ?_) (fun q k hq => ?_)
            · rw [if_pos hed]
              rw [hs.at_] at hq
              cases hq
              exact hs.cells
            · rw [hs.at_] at hq
              cases hq
              refine hs.other _ ?_
              unfold inRg
              simp only
              omega
            · rw [hs.at_] at hq
              cases hq
              exact hs.keep.frz _ hpl
          · have hne : (j == i) = false := by simpa using hji
            rw [hne] at hj
            exact hs.apart hb hji (hh j bj hj hg)
    · exact Snd.fail
  · exact Snd.fail

theorem stAlt_snd {N : Nat} {R : List Rg} {β : Beta} {ρ : Env} (hΓ : Gd.d ρ Γ = true) {w w' : World} {new : List C} {r : Rg} (id off : Nat) (hb : BetaOk N R β w) : ∀ (l : List (B × Nat × Nat)) (hp : Hp) (rest : B),
    (rest.d ρ = true → Stored β ρ w w' (pick ρ l id off).1 (pick ρ l id off).2 new r) → (∃ i o, Stored β ρ w w' i o new r) →
    Snd Φ ρ (stAlt Γ new hp rest l id off) (fun hp' => heapMt β ρ hp (if rest.d ρ then w else w') → heapMt β ρ hp' w')
  | [], hp, rest, hs, ⟨i0, o0, hs0⟩ => by
    unfold stAlt
    cases hr : rest.d ρ
    · refine (stOne_snd hΓ hs0 hb rest id off false (by simp [hr])).mono fun hp' h hh => ?_
      simpa using h (by simpa using hh)
    · refine (stOne_snd hΓ (hs hr) hb rest id off true (fun _ => ⟨rfl, rfl, rfl⟩)).mono fun hp' h hh => ?_
      have := h (by simpa using hh)
      simpa [hr] using this
  | (b, i, o) :: l, hp, rest, hs, hs0 => by
    unfold stAlt
    refine Snd.bind (mkAnd_snd _ _) fun e he => Snd.bind (mkNot_snd _) fun nb hnb => Snd.bind (mkAnd_snd _ _) fun rest' hr' => ?_
    have key : Snd Φ ρ (stOne Γ hp e i o new) (fun hp' => heapMt β ρ hp (if rest.d ρ then w else w') → heapMt β ρ hp' (if rest.d ρ && !(e.d ρ) then w else w')) := by
      by_cases h : rest.d ρ = true
      · by_cases h2 : b.d ρ = true
        · have := hs h
          unfold pick at this
          rw [if_pos h2] at this
          exact stOne_snd hΓ this hb e i o _ (fun _ => ⟨h, rfl, rfl⟩)
        · obtain ⟨i0, o0, hs0⟩ := hs0
          exact stOne_snd hΓ hs0 hb e i o _ (fun hc => by rw [he] at hc; simp [h2] at hc)
      · obtain ⟨i0, o0, hs0⟩ := hs0
        exact stOne_snd hΓ hs0 hb e i o _ (fun hc => by rw [he] at hc; simp [h] at hc)
    refine Snd.bind key fun hp' hk => ?_
    refine (stAlt_snd hΓ id off hb l hp' rest' (fun h => ?_) hs0).mono fun hp'' h hh => ?_
    · rw [hr', hnb] at h
      simp only [Bool.and_eq_true, Bool.not_eq_true'] at h
      have := hs h.1
      unfold pick at this
      rw [if_neg (by simp [h.2])] at this
      exact this
    · have h2 := hk hh
      refine h ?_
      have e2 : (rest'.d ρ) = (rest.d ρ && !(e.d ρ)) := by
        rw [hr', hnb, he]
        cases rest.d ρ <;> simp
      rw [e2]
      exact h2

def pixAlts (a : A) (id s k off : Nat) : Nat → Nat → M (List (B × Nat × Nat))
  | _, 0 => pure []
  | j, n + 1 => do
    let b ← mkCm .eql a (.c j)
    let r ← pixAlts a id s k off (j + 1) n
    pure ((b, id, off + j * s + k) :: r)
theorem pixAlts_snd {ρ : Env} (a : A) (id s k off : Nat) : ∀ (n j : Nat), Snd Φ ρ (pixAlts a id s k off j n) (fun l => ∀ i : Nat, a.d ρ = i → j ≤ i → i ≤ j + n → ∀ d, (i = j + n → d = off + i * s + k) → pick ρ l id d = (id, off + i * s + k))
  | 0, j => Snd.pure fun i _ h1 h2 d hd => by simp [pick, hd (by omega)]
  | n + 1, j => by
    unfold pixAlts
    refine Snd.bind (mkCm_snd _ _ _) fun b hb => Snd.bind (pixAlts_snd a id s k off n (j + 1)) fun r hr => Snd.pure fun i hi h1 h2 d hd => ?_
    have hb' : b.d ρ = decide (i = j) := by
      rw [hb]; simp only [cmB, A.d_c, hi]
      rw [Bool.eq_iff_iff]; simp; omega
    unfold pick
    by_cases e : i = j
    · rw [if_pos (by simp [hb', e]), e]
    · rw [if_neg (by simp [hb', e])]
      exact hr i hi (by omega) (by omega) d fun h => hd (by omega)

def ptrIds : List (B × Nat × Nat) → List Nat
  | [] => []
  | (_, i, _) :: l => if (ptrIds l).contains i then ptrIds l else i :: ptrIds l
theorem pick_mem {ρ : Env} (id off : Nat) : ∀ l, (pick ρ l id off).1 = id ∨ (pick ρ l id off).1 ∈ ptrIds l
  | [] => .inl rfl
  | (b, i, o) :: l => by
    unfold pick ptrIds
    split
    · right
      split
      · rename_i h; simpa using h
      · simp
    · rcases pick_mem id off l with h | h
      · exact .inl h
      · right
        split
        · exact h
        · simp [h]
def collectW (hp : Hp) : List Nat → List (Nat × Blk)
  | [] => []
  | i :: l => match hp i with
    | some b => (i, b) :: collectW hp l
    | none => collectW hp l
theorem collectW_mem {hp : Hp} : ∀ {l : List Nat} {p : Nat × Blk}, p ∈ collectW hp l → p.1 ∈ l ∧ hp p.1 = some p.2
  | [], p, h => by simp [collectW] at h
  | i :: l, p, h => by
    unfold collectW at h
    split at h
    · rename_i b hb
      rcases List.mem_cons.1 h with rfl | h
      · exact ⟨by simp, hb⟩
      · obtain ⟨h1, h2⟩ := collectW_mem h
        exact ⟨by simp [h1], h2⟩
    · obtain ⟨h1, h2⟩ := collectW_mem h
      exact ⟨by simp [h1], h2⟩
theorem collectW_ids {hp : Hp} : ∀ {l : List Nat} {i : Nat}, i ∈ l → (hp i).isSome = true → i ∈ (collectW hp l).map (·.1)
  | [], _, h, _ => by cases h
  | j :: l, i, h, hs => by
    unfold collectW
    rcases List.mem_cons.1 h with rfl | h
    · split
      · simp
      · rename_i hn; rw [hn] at hs; cases hs
    · split
      · have := collectW_ids (hp := hp) h hs; simp only [List.map_cons, List.mem_cons]; exact .inr this
      · exact collectW_ids h hs

/-- All blocks that may be written are known, to be written, and hold their conditions. -/
def chk (Γ : Gd) (hp : Hp) (n i o : Nat) : Bool := match hp i with | some b => Gd.sub b.g Γ && !b.ro && Nat.ble (o + n) b.cells.length | none => false
def chkAll (Γ : Gd) (hp : Hp) (n : Nat) (l : List (B × Nat × Nat)) (id off : Nat) : Bool := chk Γ hp n id off && l.all fun p => chk Γ hp n p.2.1 p.2.2
theorem chkAll_pick {ρ : Env} {n id off : Nat} : ∀ {l : List (B × Nat × Nat)}, chkAll Γ hp n l id off = true → chk Γ hp n (pick ρ l id off).1 (pick ρ l id off).2 = true
  | [], h => by simpa [chkAll, pick] using h
  | (b, i, o) :: l, h => by
    unfold chkAll at h
    simp only [List.all_cons, Bool.and_eq_true] at h
    unfold pick
    split
    · exact h.2.1
    · exact chkAll_pick (by unfold chkAll; simp only [Bool.and_eq_true]; exact ⟨h.1, h.2.2⟩)
def idsOf (l : List (B × Nat × Nat)) (id : Nat) : List Nat := if (ptrIds l).contains id then ptrIds l else id :: ptrIds l
theorem pick_idsOf {ρ : Env} (id off : Nat) (l : List (B × Nat × Nat)) : (pick ρ l id off).1 ∈ idsOf l id := by
  unfold idsOf
  rcases pick_mem (ρ := ρ) id off l with h | h
  · split
    · rename_i hc; rw [h]; simpa using hc
    · rw [h]; simp
  · split
    · exact h
    · simp [h]
def gOk (Γ : Gd) (hp : Hp) (ids : List Nat) : Bool := ids.all fun i => match hp i with | some b => Gd.sub b.g Γ | none => false

def xStore (P : Program) (Γ : Gd) (hp : Hp) (t : TypeId) (x y : S) : M Res := do
  let n ← lift (sizeN P t)
  let new ← lift y.cells
  if new.length == n && Nat.ble 1 n then
    match x with
    | .one false [.ptr l id off] => do
      let hp' ← stAlt Γ new hp (.c true) l id off
      if chkAll Γ hp n l id off && gOk Γ hp' (idsOf l id) then pure { s := .any, w := collectW hp' (idsOf l id) } else M.fail
    | .one false [.pix id off s len a k] => do
      let l ← pixAlts a id s k off 0 (len - 1)
      let hp' ← stAlt Γ new hp (.c true) l id (off + (len - 1) * s + k)
      if chkAll Γ hp n l id (off + (len - 1) * s + k) && gOk Γ hp' (idsOf l id) then pure { s := .any, w := collectW hp' (idsOf l id) } else M.fail
    | _ => M.fail
  else M.fail

/-- The store itself, into a stretch that is known and may be written. -/
theorem stored_run {β : Beta} {ρ : Env} {w : World} (hh : heapMt β ρ hp w) (hΓ : Gd.d ρ Γ = true) {id off : Nat} {n : Nat} (hn1 : 1 ≤ n) (hw : chk Γ hp n id off = true) {t : TypeId} (ht : sizeN P t = some n)
    {new : List C} {v : Value} (hn : new.length = n) (hv : mtL β ρ new v.cells.toList) (hvo : ∀ u, u ∈ v.cells.toList → oneCell u = true) :
    ∃ r, β id = some r ∧ r.ro = false ∧ ∃ w', (storeVar t ⟨r.blk, r.off + off, none⟩ v).run P w = .ok () w' ∧ Stored β ρ w w' id off new r := by
  unfold chk at hw
  split at hw
  · rename_i b hb
    simp only [Bool.and_eq_true, Bool.not_eq_true', Nat.ble_eq] at hw
    obtain ⟨hw, hw3⟩ := hw
    obtain ⟨r, hr, hl, hro, hc, hf⟩ := hh id b hb (Gd.sub_d hw.1 hΓ)
    have hlen := mtL_length hv
    rw [cellsAt_iff] at hc
    obtain ⟨w', h1, h2, h3, h4⟩ := run_storeCells (P := P) (b := r.blk) (o := r.off + off) v.cells.toList 0 w hvo (fun j hj => by
      have hjl : off + j < b.cells.length := by omega
      obtain ⟨u, hu, _⟩ := hc (off + j) _ (List.getElem?_eq_getElem hjl)
      refine ⟨⟨u, ?_⟩, ?_⟩
      · rwa [show r.off + off + 0 + j = r.off + (off + j) by omega]
      · rw [show r.off + off + 0 + j = r.off + (off + j) by omega]
        exact hf hw.2 _ hjl)
    have hlive : ∃ j v, w.cell? ⟨r.blk, j, none⟩ = some v := by
      obtain ⟨u, hu, _⟩ := hc off _ (List.getElem?_eq_getElem (by omega))
      exact ⟨_, u, hu⟩
    refine ⟨r, hr, hro.trans hw.2, w', ?_, hr, hro.trans hw.2, by omega, ?_, ?_, ?_, hlive⟩
    · unfold storeVar
      rw [Sem.run_bind, sizeN_spec ht w]
      have : ¬ (v.cells.size ≠ n) := by rw [← Array.length_toList]; omega
      simp only [Result.andThen_ok, Sem.run_bind, Sem.run_ite, this, if_false]
      exact h1
    · rw [cellsAt_iff]
      intro j c hj
      obtain ⟨u, hu, hm⟩ := mtL_get hv j c hj
      exact ⟨u, by have := h2 j u hu; simpa using this, hm⟩
    · rw [hlen]; simpa using h3
    · intro a ha
      exact h4 a (by rw [hlen] at ha; simpa using ha)
  · cases hw

theorem Stored.keep' {β : Beta} {ρ : Env} {w w' : World} {id off : Nat} {new : List C} {r : Rg} (h : Stored β ρ w w' id off new r) : Keep [r] w w' := by
  refine (Keep.refl [r] w).trans h.keep fun q hq => ?_
  simp only [List.mem_singleton] at hq
  subst hq
  exact .inr ⟨r, by simp, rfl, by simp, by have := h.le; simp; omega⟩
theorem mtL_oneCell {β : Beta} {ρ : Env} : ∀ {l : List C} {vs : List Value}, mtL β ρ l vs → ∀ u, u ∈ vs → oneCell u = true
  | [], [], _, u, hu => by cases hu
  | _ :: _, _ :: _, ⟨h1, h2⟩, u, hu => by
    rcases List.mem_cons.1 hu with rfl | hu
    · exact C.mt_oneCell h1
    · exact mtL_oneCell h2 u hu

theorem LOk.of_snd {o : Oper} {m : M Res} (h : ∀ ρ, Gd.d ρ Γ = true → Snd Φ ρ m (fun res => ∀ (N : Nat) (R : List Rg) (β : Beta) (a : Act) (w : World),
    (∀ x, x ∈ o.op.operands → (rv x).mt β ρ (a.eval x)) → heapMt β ρ hp w → BetaOk N R β w → N ≤ w.heap.size → G β w → OpG P o a w (fun v w' => ∀ lo hi, RPost N R ρ β w lo hi res v w'))) :
    LOk P Φ G Γ hp rv o m := fun ρ c res c' out he hg hΓ N R β a w hx hh hb hN hG _ =>
  (h ρ hΓ c res c' out he hg N R β a w hx hh hb hN hG).mono fun v w' hv => hv _ _

theorem store_tail {ρ : Env} (hΓ : Gd.d ρ Γ = true) {t : TypeId} {n : Nat} (ht : sizeN P t = some n) {x y : Operand} {new : List C} (hy : (rs Γ (rv y)).cells = some new) (hn : new.length = n) (hn1 : 1 ≤ n)
    (l : List (B × Nat × Nat)) (id off : Nat) (hptr : ∀ (β : Beta) (ac : Act), (rv x).mt β ρ (ac.eval x) → ∃ r, β (pick ρ l id off).1 = some r ∧ ac.eval x = .pointer (some ⟨r.blk, r.off + (pick ρ l id off).2, none⟩)) :
    Snd Φ ρ (do
      let hp' ← stAlt Γ new hp (.c true) l id off
      if chkAll Γ hp n l id off && gOk Γ hp' (idsOf l id) then pure { s := .any, w := collectW hp' (idsOf l id) } else M.fail : M Res)
      (fun res => ∀ (N : Nat) (R : List Rg) (β : Beta) (a : Act) (w : World),
    (∀ z, z ∈ (Op.store t x y).operands → (rv z).mt β ρ (a.eval z)) → heapMt β ρ hp w → BetaOk N R β w → N ≤ w.heap.size → G β w → OpG P ⟨dst, .store t x y, ty, pos, after, guard⟩ a w (fun v w' => ∀ lo hi, RPost N R ρ β w lo hi res v w')) := by
  intro c res c' out he hg N R β a w hx hh hb hN hG
  have hyv := rs_mt hΓ (hx y (by simp [Op.operands]))
  have hyc : mtL β ρ new (a.eval y).cells.toList := by
    cases hs : rs Γ (rv y) with
    | one agg l' =>
      rw [hs] at hyv hy
      simp only [S.cells, Option.some.injEq] at hy
      subst hy
      exact mtL_cells hyv
    | tup _ => rw [hs] at hy; simp [S.cells] at hy
    | any => rw [hs] at hy; simp [S.cells] at hy
  obtain ⟨q, hq, hqv⟩ := hptr β a (hx x (by simp [Op.operands]))
  -- the store
  by_cases hchk : chkAll Γ hp n l id off = true
  · obtain ⟨r, hr, hro, w', hrun, hst⟩ := stored_run (P := P) hh hΓ hn1 (chkAll_pick (ρ := ρ) hchk) ht hn hyc (mtL_oneCell hyc)
    have hrq : q = r := by rw [hr] at hq; cases hq; rfl
    subst hrq
    have hrun2 : (execOp a.eval ⟨dst, .store t x y, ty, pos, after, guard⟩).run P w = .ok .skip w' := by
      simp [execOp, Instr.storeAt, Instr.sureAddr, hqv, hrun]
    have key : Snd Φ ρ (do
      let hp' ← stAlt Γ new hp (.c true) l id off
      if chkAll Γ hp n l id off && gOk Γ hp' (idsOf l id) then pure { s := .any, w := collectW hp' (idsOf l id) } else M.fail : M Res)
        (fun res => ∃ hp', heapMt β ρ hp' w' ∧ gOk Γ hp' (idsOf l id) = true ∧ res = { s := .any, w := collectW hp' (idsOf l id) }) := by
      refine Snd.bind (stAlt_snd hΓ id off hb l hp (.c true) (fun _ => hst) ⟨_, _, hst⟩) fun hp' hh' => ?_
      split
      · rename_i hc
        simp only [Bool.and_eq_true] at hc
        exact Snd.pure ⟨hp', hh' (by simpa using hh), hc.2, rfl⟩
      · exact Snd.fail
    obtain ⟨hp', hh', hgo, rfl⟩ := key c res c' out he hg
    refine OpG.skip hrun2 fun lo hi => ⟨β, ⟨Ext.refl β, hb.keep (W := [_]) (fun r' hr' => List.mem_singleton.1 hr' ▸ ⟨_, hst.at_, hst.ro⟩) hst.keep', ⟨[_], fun r' hr' => ?_, hst.keep'⟩, fun _ _ => rfl⟩, trivial, fun p hp2 => ?_⟩
    · simp only [List.mem_singleton] at hr'
      subst hr'
      have hm := pick_idsOf (ρ := ρ) id off l
      have hs : (hp' (pick ρ l id off).1).isSome = true := by
        have := (List.all_eq_true.1 hgo) _ hm
        cases hx : hp' (pick ρ l id off).1 with
        | none => rw [hx] at this; cases this
        | some b => rfl
      exact ⟨_, collectW_ids hm hs, hr, hro, hst.live⟩
    · obtain ⟨h1, h2⟩ := collectW_mem hp2
      have := (List.all_eq_true.1 hgo) _ h1
      rw [h2] at this
      exact hh' _ _ h2 (Gd.sub_d this hΓ)
  · exfalso
    have key : Snd Φ ρ (do
      let hp' ← stAlt Γ new hp (.c true) l id off
      if chkAll Γ hp n l id off && gOk Γ hp' (idsOf l id) then pure { s := .any, w := collectW hp' (idsOf l id) } else M.fail : M Res) (fun _ => False) := by
      refine Snd.bind Snd.triv fun hp' _ => ?_
      split
      · rename_i hc
        simp only [Bool.and_eq_true] at hc
        exact absurd hc.1 hchk
      · exact Snd.fail
    exact key c res c' out he hg

theorem ok_store (t : TypeId) (x y : Operand) : LOk P Φ G Γ hp rv ⟨dst, .store t x y, ty, pos, after, guard⟩ (xStore P Γ hp t (rs Γ (rv x)) (rs Γ (rv y))) := by
  refine LOk.of_snd fun ρ hΓ => ?_
  unfold xStore
  refine Snd.bind (lift_snd _) fun n hn => Snd.bind (lift_snd _) fun new hnew => ?_
  split
  · rename_i hlen
    simp only [Bool.and_eq_true, beq_iff_eq, Nat.ble_eq] at hlen
    obtain ⟨hlen, hn1⟩ := hlen
    split
    · rename_i l id off h1
      exact store_tail hΓ hn hnew hlen hn1 l id off fun β ac hx => mt_cell h1 (rs_mt hΓ hx)
    · rename_i id off s len a k h1
      refine Snd.bind (pixAlts_snd a id s k off (len - 1) 0) fun l hl => store_tail hΓ hn hnew hlen hn1 l id _ fun β ac hx => ?_
      obtain ⟨h0, hlt, r, hr, hv⟩ := mt_cell h1 (rs_mt hΓ hx)
      obtain ⟨i, hi⟩ := Int.eq_ofNat_of_zero_le h0
      have := hl i hi (by omega) (by omega) (off + (len - 1) * s + k) (fun h => by rw [h]; simp)
      rw [this]
      refine ⟨r, hr, ?_⟩
      rw [hv, hi]
      simp
    · exact Snd.fail
  · exact Snd.fail
end ops
end Go.Proofs.YtalnndmnnffnmaaGreat.Sx
/-! ## SxI -/
set_option linter.unusedVariables false
set_option linter.unusedSimpArgs false
namespace Go.Proofs.YtalnndmnnffnmaaGreat.Sx
open Go

abbrev Fl := List Int × List Bool
/-! ### What was emitted, reckoned -/
def envOf (is : List Int) (bs : List Bool) : Env := { i := fun n => is.getD n 0, b := fun n => bs.getD n false }
def padTo {α : Type} (d : α) : Nat → List α → List α
  | 0, _ => []
  | n + 1, [] => d :: padTo d n []
  | n + 1, x :: l => x :: padTo d n l
def evEm (Φ : Funs) : List Em → List Int → List Bool → Fl
  | [], is, bs => (is, bs)
  | .di _ r :: l, is, bs => evEm Φ l (is ++ [r.d (envOf is bs)]) bs
  | .db _ r :: l, is, bs => evEm Φ l is (bs ++ [r.d (envOf is bs)])
  | .call f ai ab _ ni _ nb :: l, is, bs =>
    let o := Φ f (ai.map (A.d (envOf is bs))) (ab.map (B.d (envOf is bs)))
    evEm Φ l (is ++ padTo 0 ni o.1) (bs ++ padTo false nb o.2)
  | .ob _ _ :: l, is, bs => evEm Φ l is bs
def obAll (ρ : Env) (l : List Em) : Bool := l.all fun | .ob g b => !(Gd.d ρ g) || b.d ρ | _ => true

/-- A function, as the executor tells it: what was emitted, and the answers. -/
structure Smry where
  em : List Em
  ri : List A
  rb : List B
def Smry.run (Φ : Funs) (pre : Bool) (S : Smry) : Fun := fun is bs =>
  let p := evEm Φ S.em is bs
  let ρ := envOf p.1 p.2
  (S.ri.map (A.d ρ), (if pre then [obAll ρ S.em] else []) ++ S.rb.map (B.d ρ))
/-- It calls nothing. -/
def Fun0 : Funs := fun _ _ _ => ([], [])

/-- An argument's shape: a value's cells; an address of such cells. -/
inductive Sh where
  | val (agg : Bool) (l : List CK)
  | ptr (l : List CK)
  | sli (ks : List CK)

/-- A function's shape: its arguments, its results, whether its first answer tells that it may be called. -/
structure Sum where
  args : List Sh
  tup : Bool
  res : List (Bool × List CK)
  pre : Bool
  sl : Option (IntKind × List Int) := none
  inl : Option Smry := none

def flatC (ps : List Rg) : List CK → List Value → Option Fl
  | [], [] => some ([], [])
  | .int k :: l, v :: vs => match v, flatC ps l vs with
    | .int k' n, some (is, bs) => if k' == k && inR k n then some (n :: is, bs) else none
    | _, _ => none
  | .bool :: l, v :: vs => match v, flatC ps l vs with
    | .bool b, some (is, bs) => some (is, b :: bs)
    | _, _ => none
  | .pt k o :: l, v :: vs => match v, ps[k]?, flatC ps l vs with
    | .pointer (some a), some r, some (is, bs) => if a = ⟨r.blk, r.off + o, none⟩ then some (is, bs) else none
    | _, _, _ => none
  | .str :: l, v :: vs => match v, flatC ps l vs with
    | .string s, some (is, bs) => if inR .i64 s.size then some (encS s :: is, bs) else none
    | _, _ => none
  | _, _ => none

def flat1 (ps : List Rg) (agg : Bool) (l : List CK) (v : Value) : Option Fl :=
  if agg then match v with | .agg vs => flatC ps l vs.toList | _ => none
  else match l with | [c] => flatC ps [c] [v] | _ => none

def readCells (w : World) (b : Nat) : Nat → Nat → Option (List Value)
  | _, 0 => some []
  | o, n + 1 => match w.cell? ⟨b, o, none⟩, readCells w b (o + 1) n with
    | some v, some vs => some (v :: vs)
    | _, _ => none

/-- A slice's elements, as numbers. -/
def decV : CK → Value → Option Int
  | .int k, .int k' n => if k' == k && inR k n then some n else none
  | .bool, .bool b => some (if b then 1 else 0)
  | .str, .string s => if inR .i64 s.size then some (encS s) else none
  | _, _ => none
def decVs (ks : List CK) : Nat → List Value → Option (List Int)
  | _, [] => some []
  | j, v :: vs => match ks[j % ks.length]?, decVs ks (j + 1) vs with
    | some ck, some l => (decV ck v).map (· :: l)
    | _, _ => none
def flatSl (w : World) (ks : List CK) : Value → Option (List Int × Int × Option Rg)
  | .slice p len cap => if len == 0 then some ([], 0, none) else match p with
    | some ⟨b, o, none⟩ => if inR .i64 len then match (readCells w b o (len * ks.length)).bind (decVs ks 0) with
        | some l => some (l, len, some { blk := b, off := o, len := len * ks.length, ro := true, sq := some (ks, l) })
        | none => none
      else none
    | _ => none
  | _ => none

def flatArgs : List Sh → List Value → World → Option (List Int × List Bool × List Rg)
  | [], [], _ => some ([], [], [])
  | .val agg l :: ss, v :: vs, w => match flat1 [] agg l v, flatArgs ss vs w with
    | some (i, b), some (is, bs, ps) => some (i ++ is, b ++ bs, ps)
    | _, _ => none
  | .ptr l :: ss, v :: vs, w => match v, flatArgs ss vs w with
    | .pointer (some ⟨b, o, none⟩), some (is, bs, ps) => match (readCells w b o l.length).bind (flatC [] l) with
      | some (i, bb) => some (i ++ is, bb ++ bs, { blk := b, off := o, len := l.length, ro := false } :: ps)
      | none => none
    | _, _ => none
  | .sli ks :: ss, v :: vs, w => match flatSl w ks v, flatArgs ss vs w with
    | some (l, n, _), some (is, bs, ps) => some (enc l :: n :: is, bs, ps)
    | _, _ => none
  | _, _, _ => none
/-- Where slices that are handed in lie. -/
def sliRgs : List Sh → List Value → World → List (Option Rg)
  | .sli ks :: ss, v :: vs, w => (match flatSl w ks v with | some (_, _, r) => r | none => none) :: sliRgs ss vs w
  | _ :: ss, _ :: vs, w => sliRgs ss vs w
  | _, _, _ => []
def nSli : List Sh → Nat
  | [] => 0
  | .sli _ :: ss => nSli ss + 1
  | _ :: ss => nSli ss

def ptrShapes : List Sh → List (List CK)
  | [] => []
  | .sli _ :: ss => ptrShapes ss
  | .ptr l :: ss => l :: ptrShapes ss
  | .val _ _ :: ss => ptrShapes ss

def flatPs (w : World) : List (List CK) → List Rg → Option Fl
  | [], [] => some ([], [])
  | l :: ls, r :: rs => match (readCells w r.blk r.off l.length).bind (flatC [] l), flatPs w ls rs with
    | some (i, b), some (is, bs) => some (i ++ is, b ++ bs)
    | _, _ => none
  | _, _ => none

def flatTup (ps : List Rg) : List (Bool × List CK) → List Value → Option Fl
  | [], [] => some ([], [])
  | p :: l, v :: vs => match flat1 ps p.1 p.2 v, flatTup ps l vs with
    | some (i, b), some (is, bs) => some (i ++ is, b ++ bs)
    | _, _ => none
  | _, _ => none
def flatRes (ps : List Rg) (s : Sum) (v : Value) : Option Fl :=
  if s.tup then match v with | .tuple vs => flatTup ps s.res vs.toList | _ => none
  else match s.res with | [p] => flat1 ps p.1 p.2 v | _ => none

def apartL : List Rg → Prop
  | [] => True
  | r :: rs => (∀ q, q ∈ rs → r.apart q) ∧ apartL rs
def frzL (ps : List Rg) (w : World) : Prop := ∀ r, r ∈ ps → ∀ j, j < r.len → w.frozen? ⟨r.blk, r.off + j, none⟩ = false

/-- What a call comes to. -/
def OutOk (s : Sum) (ps : List Rg) (v : Value) (w' : World) (o : Fl) : Prop :=
  ∃ r p, flatRes ps s v = some r ∧ flatPs w' (ptrShapes s.args) ps = some p ∧ o.1 = r.1 ++ p.1 ∧ (if s.pre then o.2.tail else o.2) = r.2 ++ p.2

/-- The package-level tables: what the first variables hold; where they lie; that they are laid. -/
abbrev Gl := List (List Value)
def gRg (g : Nat) (vs : List Value) : Rg := { blk := g, off := 0, len := vs.length, ro := true }
def Laid (gl : Gl) (w : World) : Prop := ∀ (g : Nat) (vs : List Value), gl[g]? = some vs → g < w.heap.size ∧ ∀ (j : Nat) (v : Value), vs[j]? = some v → w.cell? ⟨g, j, none⟩ = some v ∧ oneCell v = true
def GB (gl : Gl) (β : Beta) (w : World) : Prop := Laid gl w ∧ ∀ (g : Nat) (vs : List Value), gl[g]? = some vs → β g = some (gRg g vs)

/-- A function's contract: what it answers is what 'F' says, of its arguments' numbers and bools; all else stays. -/
def Contract (P : Program) (gl : Gl) (f : Nat) (s : Sum) (F : Fun) : Prop :=
  ∀ (vs : List Value) (w : World) (is : List Int) (bs : List Bool) (ps : List Rg), Laid gl w → flatArgs s.args vs w = some (is, bs, ps) → apartL ps → frzL ps w →
    (∀ q, q ∈ ps → ∀ (g : Nat) (vs : List Value), gl[g]? = some vs → q.apart (gRg g vs)) →
    (∀ q, q ∈ ps → ∀ r, some r ∈ sliRgs s.args vs w → q.apart r) →
    (s.pre = true → (F is bs).2.headD false = true) →
    Calls P f vs.toArray w fun e w' => ∃ v, e = .returned v ∧ Keep ps w w' ∧ OutOk s ps v w' (F is bs)

/-- A function without arguments that answers a new slice of known numbers. -/
def TabContract (P : Program) (gl : Gl) (f : Nat) (p : IntKind × List Int) : Prop :=
  ∀ (w : World), Laid gl w → Calls P f #[] w fun e w' => ∃ b o, e = .returned (.slice (some ⟨b, o, none⟩) p.2.length p.2.length) ∧ Keep [] w w' ∧ w.heap.size ≤ b ∧ b < w'.heap.size ∧
    ∀ (j : Nat) (v : Int), p.2[j]? = some v → w'.cell? ⟨b, o + j, none⟩ = some (.int p.1 v) ∧ InR p.1 v

/-! ### What is known, taken as numbers and bools -/
def takeC : List CK → List C → Option (List A × List B)
  | [], [] => some ([], [])
  | .int k :: l, .int k' a :: cs => match takeC l cs with
    | some (as, bs) => if k' == k then some (a :: as, bs) else none
    | none => none
  | .bool :: l, .bool b :: cs => match takeC l cs with
    | some (as, bs) => some (as, b :: bs)
    | none => none
  | .str :: l, c :: cs => match asStr c, takeC l cs with
    | some q, some (as, bs) => some (q :: as, bs)
    | _, _ => none
  | _, _ => none
theorem inR_mk {k : IntKind} {n : Int} (h : InR k n) : inR k n = true := by
  unfold inR; unfold InR at h; simp [h.1, h.2]
theorem takeC_flat {β : Beta} {ρ : Env} {ps : List Rg} : ∀ {l : List CK} {cs : List C} {as : List A} {bs : List B} {vs : List Value}, takeC l cs = some (as, bs) → mtL β ρ cs vs → flatC ps l vs = some (as.map (A.d ρ), bs.map (B.d ρ))
  | [], [], as, bs, vs, h, hm => by
    simp only [takeC, Option.some.injEq, Prod.mk.injEq] at h
    obtain ⟨rfl, rfl⟩ := h
    cases vs with
    | nil => rfl
    | cons _ _ => exact hm.elim
  | .int k :: l, .int k' a :: cs, as, bs, vs, h, hm => by
    cases vs with
    | nil => exact hm.elim
    | cons v vs =>
      obtain ⟨h1, h2⟩ := hm
      obtain ⟨rfl, h3⟩ := h1
      unfold takeC at h
      split at h
      · rename_i as' bs' ht
        split at h
        · rename_i hk
          simp only [beq_iff_eq] at hk
          subst hk
          simp only [Option.some.injEq, Prod.mk.injEq] at h
          obtain ⟨rfl, rfl⟩ := h
          unfold flatC
          rw [takeC_flat (ps := ps) ht h2]
          simp [inR_mk h3]
        · cases h
      · cases h
  | .bool :: l, .bool b :: cs, as, bs, vs, h, hm => by
    cases vs with
    | nil => exact hm.elim
    | cons v vs =>
      obtain ⟨h1, h2⟩ := hm
      have h1 : v = .bool (b.d ρ) := h1
      subst h1
      unfold takeC at h
      split at h
      · rename_i as' bs' ht
        simp only [Option.some.injEq, Prod.mk.injEq] at h
        obtain ⟨rfl, rfl⟩ := h
        unfold flatC
        rw [takeC_flat (ps := ps) ht h2]
        simp
      · cases h
  | .str :: l, c :: cs, as, bs, vs, h, hm => by
    cases vs with
    | nil => exact hm.elim
    | cons v vs =>
      obtain ⟨h1, h2⟩ := hm
      unfold takeC at h
      split at h
      · rename_i q as' bs' hq ht
        simp only [Option.some.injEq, Prod.mk.injEq] at h
        obtain ⟨rfl, rfl⟩ := h
        obtain ⟨s, rfl, e1, e2⟩ := asStr_mt hq h1
        unfold flatC
        rw [takeC_flat (ps := ps) ht h2]
        simp [inR_mk e2, e1]
      · cases h
  | .str :: _, [], _, _, _, h, _ => by simp [takeC] at h
  | [], _ :: _, _, _, _, h, _ => by simp [takeC] at h
  | .int _ :: _, .str _ :: _, _, _, _, h, _ => by simp [takeC] at h
  | .int _ :: _, .fn _ _ :: _, _, _, _, h, _ => by simp [takeC] at h
  | .int _ :: _, .mp _ :: _, _, _, _, h, _ => by simp [takeC] at h
  | .bool :: _, .str _ :: _, _, _, _, h, _ => by simp [takeC] at h
  | .bool :: _, .fn _ _ :: _, _, _, _, h, _ => by simp [takeC] at h
  | .bool :: _, .mp _ :: _, _, _, _, h, _ => by simp [takeC] at h
  | .int _ :: _, [], _, _, _, h, _ => by simp [takeC] at h
  | .bool :: _, [], _, _, _, h, _ => by simp [takeC] at h
  | .pt _ _ :: _, _, _, _, _, h, _ => by simp [takeC] at h
  | .int _ :: _, .bool _ :: _, _, _, _, h, _ => by simp [takeC] at h
  | .int _ :: _, .ptr _ _ _ :: _, _, _, _, h, _ => by simp [takeC] at h
  | .int _ :: _, .pix _ _ _ _ _ _ :: _, _, _, _, h, _ => by simp [takeC] at h
  | .int _ :: _, .sli _ _ _ _ :: _, _, _, _, h, _ => by simp [takeC] at h
  | .int _ :: _, .slx _ _ _ _ :: _, _, _, _, h, _ => by simp [takeC] at h
  | .int _ :: _, .pxq _ _ _ _ _ :: _, _, _, _, h, _ => by simp [takeC] at h
  | .int _ :: _, .val _ :: _, _, _, _, h, _ => by simp [takeC] at h
  | .int _ :: _, .junk :: _, _, _, _, h, _ => by simp [takeC] at h
  | .bool :: _, .int _ _ :: _, _, _, _, h, _ => by simp [takeC] at h
  | .bool :: _, .ptr _ _ _ :: _, _, _, _, h, _ => by simp [takeC] at h
  | .bool :: _, .pix _ _ _ _ _ _ :: _, _, _, _, h, _ => by simp [takeC] at h
  | .bool :: _, .sli _ _ _ _ :: _, _, _, _, h, _ => by simp [takeC] at h
  | .bool :: _, .slx _ _ _ _ :: _, _, _, _, h, _ => by simp [takeC] at h
  | .bool :: _, .pxq _ _ _ _ _ :: _, _, _, _, h, _ => by simp [takeC] at h
  | .bool :: _, .val _ :: _, _, _, _, h, _ => by simp [takeC] at h
  | .bool :: _, .junk :: _, _, _, _, h, _ => by simp [takeC] at h

/-- Cells of new numbers and bools. -/
def freshC (FI : Nat → A) (FB : Nat → B) (pp : List (Nat × Nat)) : List CK → Nat → Nat → List C
  | [], _, _ => []
  | .int k :: l, i, b => .int k (FI i) :: freshC FI FB pp l (i + 1) b
  | .bool :: l, i, b => .bool (FB b) :: freshC FI FB pp l i (b + 1)
  | .str :: l, i, b => .str (FI i) :: freshC FI FB pp l (i + 1) b
  | .pt k o :: l, i, b => (match pp[k]? with | some (id, off) => .ptr [] id (off + o) | none => .junk) :: freshC FI FB pp l i b
def nI : List CK → Nat
  | [] => 0
  | .int _ :: l => nI l + 1
  | .str :: l => nI l + 1
  | _ :: l => nI l
def nB : List CK → Nat
  | [] => 0
  | .bool :: l => nB l + 1
  | _ :: l => nB l
theorem flatC_len {ps : List Rg} : ∀ {l : List CK} {vs : List Value} {f : Fl}, flatC ps l vs = some f → f.1.length = nI l ∧ f.2.length = nB l ∧ vs.length = l.length
  | [], [], f, h => by simp [flatC] at h; subst h; simp [nI, nB]
  | [], _ :: _, f, h => by simp [flatC] at h
  | .int k :: l, [], f, h => by simp [flatC] at h
  | .bool :: l, [], f, h => by simp [flatC] at h
  | .pt _ _ :: l, [], f, h => by simp [flatC] at h
  | .str :: l, [], f, h => by simp [flatC] at h
  | .str :: l, v :: vs, f, h => by
    unfold flatC at h
    split at h
    · rename_i s is bs h2
      split at h
      · simp only [Option.some.injEq] at h
        subst h
        have := flatC_len h2
        simp only [nI, nB, List.length_cons] at this ⊢
        omega
      · cases h
    · cases h
  | .int k :: l, v :: vs, f, h => by
    unfold flatC at h
    split at h
    · rename_i k' n is bs h2
      split at h
      · simp only [Option.some.injEq] at h
        subst h
        have := flatC_len h2
        simp only [nI, nB, List.length_cons] at this ⊢
        omega
      · cases h
    · cases h
  | .bool :: l, v :: vs, f, h => by
    unfold flatC at h
    split at h
    · rename_i b is bs h2
      simp only [Option.some.injEq] at h
      subst h
      have := flatC_len h2
      simp only [nI, nB, List.length_cons] at this ⊢
      omega
    · cases h
  | .pt k o :: l, v :: vs, f, h => by
    unfold flatC at h
    split at h
    · rename_i a r is bs h1 h2
      split at h
      · simp only [Option.some.injEq] at h
        subst h
        have := flatC_len h2
        simp only [nI, nB, List.length_cons] at this ⊢
        omega
      · cases h
    · cases h
/-- Addresses of the address arguments. -/
def ppOk (β : Beta) : List (Nat × Nat) → List Rg → Prop
  | [], [] => True
  | p :: pp, r :: ps => (∃ q, β p.1 = some q ∧ q.blk = r.blk ∧ q.off + p.2 = r.off) ∧ ppOk β pp ps
  | _, _ => False
theorem ppOk_get {β : Beta} : ∀ {pp : List (Nat × Nat)} {ps : List Rg}, ppOk β pp ps → ∀ {k : Nat} {r : Rg}, ps[k]? = some r → ∃ p q, pp[k]? = some p ∧ β p.1 = some q ∧ q.blk = r.blk ∧ q.off + p.2 = r.off
  | [], [], _, k, r, h => by simp at h
  | p :: pp, q :: ps, ⟨h1, h2⟩, k, r, h => by
    cases k with
    | zero => simp at h; subst h; obtain ⟨q', hq⟩ := h1; exact ⟨p, q', by simp, hq⟩
    | succ k => simp at h; simpa using ppOk_get h2 h
theorem freshC_mt {FI : Nat → A} {FB : Nat → B} {β : Beta} {ρ : Env} {ps : List Rg} {pp : List (Nat × Nat)} (hpp : ppOk β pp ps) : ∀ {l : List CK} {i b : Nat} {vs : List Value} {f : Fl}, flatC ps l vs = some f →
    (∀ j, j < nI l → (FI (i + j)).d ρ = f.1.getD j 0) → (∀ j, j < nB l → (FB (b + j)).d ρ = f.2.getD j false) → mtL β ρ (freshC FI FB pp l i b) vs
  | [], i, b, [], f, h, _, _ => trivial
  | [], i, b, _ :: _, f, h, _, _ => by simp [flatC] at h
  | .int k :: l, i, b, [], f, h, _, _ => by simp [flatC] at h
  | .bool :: l, i, b, [], f, h, _, _ => by simp [flatC] at h
  | .pt _ _ :: l, i, b, [], f, h, _, _ => by simp [flatC] at h
  | .str :: l, i, b, [], f, h, _, _ => by simp [flatC] at h
  | .str :: l, i, b, v :: vs, f, h, h1, h2 => by
    unfold flatC at h
    split at h
    · rename_i s is bs hf
      split at h
      · rename_i hc
        simp only [Option.some.injEq] at h
        subst h
        have e0 := h1 0 (by simp [nI])
        simp only [Nat.add_zero, List.getD_cons_zero] at e0
        refine ⟨⟨s, rfl, e0, inR_spec hc⟩, freshC_mt hpp hf (fun j hj => ?_) (fun j hj => ?_)⟩
        · have := h1 (j + 1) (by simp [nI]; omega)
          rw [show i + 1 + j = i + (j + 1) by omega, this]
          simp
        · exact h2 j (by simpa [nB] using hj)
      · cases h
    · cases h
  | .int k :: l, i, b, v :: vs, f, h, h1, h2 => by
    unfold flatC at h
    split at h
    · rename_i k' n is bs hf
      split at h
      · rename_i hc
        simp only [Bool.and_eq_true, beq_iff_eq] at hc
        obtain ⟨rfl, hr⟩ := hc
        simp only [Option.some.injEq] at h
        subst h
        have e0 := h1 0 (by simp [nI])
        simp only [Nat.add_zero, List.getD_cons_zero] at e0
        refine ⟨⟨?_, ?_⟩, freshC_mt hpp hf (fun j hj => ?_) (fun j hj => ?_)⟩
        · simp [e0]
        · simp only [e0]; exact inR_spec hr
        · have := h1 (j + 1) (by simp [nI]; omega)
          rw [show i + 1 + j = i + (j + 1) by omega, this]
          simp
        · exact h2 j (by simpa [nB] using hj)
      · cases h
    · cases h
  | .bool :: l, i, b, v :: vs, f, h, h1, h2 => by
    unfold flatC at h
    split at h
    · rename_i x is bs hf
      simp only [Option.some.injEq] at h
      subst h
      have e0 := h2 0 (by simp [nB])
      simp only [Nat.add_zero, List.getD_cons_zero] at e0
      refine ⟨?_, freshC_mt hpp hf (fun j hj => h1 j (by simpa [nI] using hj)) (fun j hj => ?_)⟩
      · show Value.bool x = .bool ((FB b).d ρ)
        simp [e0]
      · have := h2 (j + 1) (by simp [nB]; omega)
        rw [show b + 1 + j = b + (j + 1) by omega, this]
        simp
    · cases h
  | .pt k o :: l, i, b, v :: vs, f, h, h1, h2 => by
    unfold flatC at h
    split at h
    · rename_i a r is bs hr hf
      split at h
      · rename_i ha
        simp only [Option.some.injEq] at h
        subst h
        obtain ⟨p, q, hp, hq, hq1, hq2⟩ := ppOk_get hpp hr
        refine ⟨?_, freshC_mt hpp hf (fun j hj => h1 j (by simpa [nI] using hj)) (fun j hj => h2 j (by simpa [nB] using hj))⟩
        rw [hp]
        refine ⟨q, hq, ?_⟩
        subst ha
        simp only [pick]
        rw [hq1, ← hq2, Nat.add_assoc]
      · cases h
    · cases h
theorem flatC_oneCell {ps : List Rg} : ∀ {l : List CK} {vs : List Value} {f : Fl}, flatC ps l vs = some f → ∀ v, v ∈ vs → oneCell v = true
  | [], [], f, h, v, hv => by cases hv
  | [], _ :: _, f, h, _, _ => by simp [flatC] at h
  | .int k :: l, [], f, h, _, _ => by simp [flatC] at h
  | .bool :: l, [], f, h, _, _ => by simp [flatC] at h
  | .pt _ _ :: l, [], f, h, _, _ => by simp [flatC] at h
  | .str :: l, [], f, h, _, _ => by simp [flatC] at h
  | .str :: l, u :: vs, f, h, v, hv => by
    unfold flatC at h
    split at h
    · rename_i s is bs h2
      rcases List.mem_cons.1 hv with rfl | hv
      · rfl
      · split at h
        · exact flatC_oneCell h2 v hv
        · cases h
    · cases h
  | .int k :: l, u :: vs, f, h, v, hv => by
    unfold flatC at h
    split at h
    · rename_i k' n is bs h2
      rcases List.mem_cons.1 hv with rfl | hv
      · rfl
      · exact flatC_oneCell h2 v hv
    · cases h
  | .bool :: l, u :: vs, f, h, v, hv => by
    unfold flatC at h
    split at h
    · rename_i b is bs h2
      rcases List.mem_cons.1 hv with rfl | hv
      · rfl
      · exact flatC_oneCell h2 v hv
    · cases h
  | .pt k o :: l, u :: vs, f, h, v, hv => by
    unfold flatC at h
    split at h
    · rename_i a r is bs h1 h2
      rcases List.mem_cons.1 hv with rfl | hv
      · rfl
      · exact flatC_oneCell h2 v hv
    · cases h
theorem readCells_get {w : World} {b : Nat} : ∀ {n o : Nat} {vs : List Value}, readCells w b o n = some vs → vs.length = n ∧ ∀ j v, vs[j]? = some v → w.cell? ⟨b, o + j, none⟩ = some v
  | 0, o, vs, h => by simp [readCells] at h; subst h; simp
  | n + 1, o, vs, h => by
    unfold readCells at h
    split at h
    · rename_i v us h1 h2
      simp only [Option.some.injEq] at h
      subst h
      obtain ⟨g1, g2⟩ := readCells_get h2
      refine ⟨by simp [g1], fun j u hj => ?_⟩
      cases j with
      | zero => simp at hj; subst hj; exact h1
      | succ j => simp at hj; have := g2 j u hj; rwa [show o + 1 + j = o + (j + 1) by omega] at this
    · cases h
theorem readCells_mk {w : World} {b : Nat} : ∀ {vs : List Value} {o : Nat}, (∀ j v, vs[j]? = some v → w.cell? ⟨b, o + j, none⟩ = some v) → readCells w b o vs.length = some vs
  | [], o, h => rfl
  | v :: vs, o, h => by
    simp only [List.length_cons]
    unfold readCells
    have h0 := h 0 v (by simp)
    simp only [Nat.add_zero] at h0
    rw [h0, readCells_mk fun j u hj => by have := h (j + 1) u (by simpa using hj); rwa [show o + (j + 1) = o + 1 + j by omega] at this]
theorem cellsAt_of_read {β : Beta} {ρ : Env} {w : World} {b o n : Nat} {vs : List Value} (h : readCells w b o n = some vs) {l : List C} (hm : mtL β ρ l vs) : cellsAt β ρ w b o l := by
  rw [cellsAt_iff]
  intro j c hj
  obtain ⟨v, hv, hc⟩ := mtL_get hm j c hj
  exact ⟨v, (readCells_get h).2 j v hv, hc⟩
theorem freshC_length (FI : Nat → A) (FB : Nat → B) (pp : List (Nat × Nat)) : ∀ (l : List CK) (i b : Nat), (freshC FI FB pp l i b).length = l.length
  | [], _, _ => rfl
  | .int _ :: l, i, b => by simp [freshC, freshC_length FI FB pp l]
  | .bool :: l, i, b => by simp [freshC, freshC_length FI FB pp l]
  | .pt _ _ :: l, i, b => by simp [freshC, freshC_length FI FB pp l]
  | .str :: l, i, b => by simp [freshC, freshC_length FI FB pp l]
end Go.Proofs.YtalnndmnnffnmaaGreat.Sx
/-! ## SxJ -/
set_option linter.unusedVariables false
set_option linter.unusedSimpArgs false
namespace Go.Proofs.YtalnndmnnffnmaaGreat.Sx
open Go

/-! ### Slices that are handed in -/
theorem seq_read {w : World} {b : Nat} {ks : List CK} : ∀ {l : List Int} {o j : Nat}, (∀ (i : Nat) (n : Int), l[i]? = some n → ∃ ck v, ks[(j + i) % ks.length]? = some ck ∧ w.cell? ⟨b, o + i, none⟩ = some v ∧ ckv ck n v) →
    ∃ us, readCells w b o l.length = some us ∧ decVs ks j us = some l
  | [], o, j, _ => ⟨[], rfl, rfl⟩
  | n :: l, o, j, h => by
    obtain ⟨ck, v, h1, h2, h3⟩ := h 0 n (by simp)
    rw [Nat.add_zero] at h1 h2
    obtain ⟨us, g1, g2⟩ := seq_read (ks := ks) (l := l) (o := o + 1) (j := j + 1) fun i m hm => by
      obtain ⟨ck, v, h1, h2, h3⟩ := h (i + 1) m (by simpa using hm)
      exact ⟨ck, v, by rw [show j + 1 + i = j + (i + 1) by omega]; exact h1, by rw [show o + 1 + i = o + (i + 1) by omega]; exact h2, h3⟩
    refine ⟨v :: us, ?_, ?_⟩
    · simp only [List.length_cons, readCells, h2, g1]
    · unfold decVs
      rw [h1, g2]
      cases ck with
      | int k =>
        obtain ⟨rfl, h4⟩ := h3
        simp [decV, inR_mk h4]
      | bool =>
        obtain ⟨h4, rfl⟩ := h3
        rcases h4 with rfl | rfl <;> simp [decV]
      | str =>
        obtain ⟨s, rfl, rfl, h4⟩ := h3
        simp [decV, inR_mk h4]
      | pt _ _ => exact h3.elim
theorem seq_of_read {w : World} {b : Nat} {ks : List CK} : ∀ {us : List Value} {l : List Int} {o j : Nat}, decVs ks j us = some l → (∀ i v, us[i]? = some v → w.cell? ⟨b, o + i, none⟩ = some v) → us.length = l.length ∧
    ∀ (i : Nat) (n : Int), l[i]? = some n → ∃ ck v, ks[(j + i) % ks.length]? = some ck ∧ w.cell? ⟨b, o + i, none⟩ = some v ∧ ckv ck n v
  | [], l, o, j, h, _ => by simp only [decVs, Option.some.injEq] at h; subst h; exact ⟨rfl, fun i n h => by simp at h⟩
  | v :: us, l, o, j, h, hc => by
    unfold decVs at h
    split at h
    · rename_i ck l' h1 h2
      cases hd : decV ck v with
      | none => rw [hd] at h; simp at h
      | some m =>
        rw [hd] at h
        simp only [Option.map_some, Option.some.injEq] at h
        subst h
        obtain ⟨e1, e2⟩ := seq_of_read (b := b) (w := w) (o := o + 1) h2 (fun i v hv => by rw [show o + 1 + i = o + (i + 1) by omega]; exact hc (i + 1) v (by simpa using hv))
        refine ⟨by simp [e1], fun i n hn => ?_⟩
        cases i with
        | zero =>
          simp at hn
          subst hn
          refine ⟨ck, v, by simpa using h1, hc 0 v (by simp), ?_⟩
          cases ck with
          | int k =>
            cases v <;> simp only [decV] at hd <;> (try (cases hd; done))
            split at hd
            · rename_i hk
              simp only [Bool.and_eq_true, beq_iff_eq] at hk
              obtain ⟨rfl, hk⟩ := hk
              cases hd
              exact ⟨rfl, inR_spec hk⟩
            · cases hd
          | bool =>
            cases v <;> simp only [decV, Option.some.injEq] at hd <;> (try (cases hd; done))
            rename_i bb
            subst hd
            cases bb
            · exact ⟨.inl rfl, rfl⟩
            · exact ⟨.inr rfl, rfl⟩
          | str =>
            cases v <;> simp only [decV] at hd <;> (try (cases hd; done))
            rename_i s
            split at hd
            · rename_i hk
              simp only [Option.some.injEq] at hd
              exact ⟨s, rfl, hd.symm, inR_spec hk⟩
            · cases hd
          | pt _ _ => simp [decV] at hd
        | succ i =>
          obtain ⟨ck, v, g1, g2, g3⟩ := e2 i n (by simpa using hn)
          exact ⟨ck, v, by rw [show j + (i + 1) = j + 1 + i by omega]; exact g1, by rw [show o + (i + 1) = o + 1 + i by omega]; exact g2, g3⟩
    · cases h
theorem flatSl_of {β : Beta} {ρ : Env} {w : World} (hq : SqOk β w) {id : Nat} {ks : List CK} {q len : A} {v : Value} (h : (C.slx id ks q len).mt β ρ v) :
    ∃ l r, flatSl w ks v = some (l, len.d ρ, r) ∧ enc l = q.d ρ ∧ ∀ r', r = some r' → ∃ i r0, β i = some r0 ∧ r0.ro = true ∧ r'.blk = r0.blk ∧ r'.off = r0.off ∧ r'.len = r0.len := by
  obtain ⟨h1, h2, h3⟩ := h
  rcases h3 with ⟨e1, e2, p, cap, rfl⟩ | ⟨r, cap, l, hr, hs, e1, e2, e3, rfl⟩
  · refine ⟨[], none, ?_, e1.symm, fun r' hr' => by cases hr'⟩
    simp [flatSl, e2]
  · obtain ⟨g1, g2, g3⟩ := hq id r ks l hr hs
    obtain ⟨us, k1, k2⟩ := seq_read (j := 0) (fun i n hn => by simpa using g3 i n hn)
    refine ⟨l, some { blk := r.blk, off := r.off, len := (len.d ρ).toNat * ks.length, ro := true, sq := some (ks, l) }, ?_, e1.symm, fun r' hr' => ⟨id, r, hr, g1, ?_⟩⟩
    · unfold flatSl
      have hn0 : ((len.d ρ).toNat == 0) = false := by simp; omega
      have hin : inR .i64 ((len.d ρ).toNat : Int) = true := by rw [Int.toNat_of_nonneg h1]; exact inR_mk h2
      rw [e3] at k1
      simp only [hn0, Bool.false_eq_true, if_false, hin, if_true, k1, Option.bind_some, k2]
      rw [Int.toNat_of_nonneg h1]
    · simp only [Option.some.injEq] at hr'
      subst hr'
      exact ⟨rfl, rfl, by simp only; omega⟩
theorem flatSl_mt {β : Beta} {ρ : Env} {w : World} {id : Nat} {ks : List CK} {q len : A} {v : Value} {l : List Int} {n : Int} {r : Option Rg} (h : flatSl w ks v = some (l, n, r)) (hr : ∀ r', r = some r' → β id = some r') (hq : q.d ρ = enc l) (hn : len.d ρ = n) :
    (C.slx id ks q len).mt β ρ v := by
  unfold flatSl at h
  split at h
  · rename_i p len' cap
    split at h
    · rename_i h0
      simp only [beq_iff_eq] at h0
      subst h0
      simp only [Option.some.injEq, Prod.mk.injEq] at h
      obtain ⟨rfl, rfl, rfl⟩ := h
      exact ⟨by rw [hn]; decide, by rw [hn]; unfold InR; decide, .inl ⟨hq, hn, p, cap, rfl⟩⟩
    · rename_i h0
      simp only [beq_iff_eq] at h0
      split at h
      · rename_i b o
        split at h
        · rename_i hin
          split at h
          · rename_i l' hl
            simp only [Option.some.injEq, Prod.mk.injEq] at h
            obtain ⟨rfl, rfl, rfl⟩ := h
            cases hrd : readCells w b o (len' * ks.length) with
            | none => rw [hrd] at hl; simp at hl
            | some us =>
              rw [hrd] at hl
              simp only [Option.bind_some] at hl
              obtain ⟨g1, g2⟩ := readCells_get hrd
              obtain ⟨g3, g4⟩ := seq_of_read (b := b) (o := o) (w := w) hl g2
              refine ⟨by rw [hn]; omega, by rw [hn]; exact inR_spec hin, .inr ⟨_, cap, l', hr _ rfl, rfl, hq, by rw [hn]; omega, by rw [hn, Int.toNat_natCast]; omega, by rw [hn, Int.toNat_natCast]⟩⟩
          · cases h
        · cases h
      · cases h
  · cases h
theorem flatSl_sq {w : World} {ks : List CK} {v : Value} {l : List Int} {n : Int} {r : Rg} (h : flatSl w ks v = some (l, n, some r)) : r.ro = true ∧ r.sq = some (ks, l) ∧ l.length = r.len ∧ seqAt w r.blk r.off ks l ∧ (ks ≠ [] → r.blk < w.heap.size) := by
  unfold flatSl at h
  split at h
  · rename_i p len' cap
    split at h
    · simp only [Option.some.injEq, Prod.mk.injEq] at h
      cases h.2.2
    · rename_i h0
      simp only [beq_iff_eq] at h0
      split at h
      · rename_i b o
        split at h
        · split at h
          · rename_i l' hl
            simp only [Option.some.injEq, Prod.mk.injEq] at h
            obtain ⟨rfl, rfl, rfl⟩ := h
            cases hrd : readCells w b o (len' * ks.length) with
            | none => rw [hrd] at hl; simp at hl
            | some us =>
              rw [hrd] at hl
              simp only [Option.bind_some] at hl
              obtain ⟨g1, g2⟩ := readCells_get hrd
              obtain ⟨g3, g4⟩ := seq_of_read (b := b) (o := o) (w := w) hl g2
              refine ⟨rfl, rfl, by simp only; omega, fun i n hn => by simpa using g4 i n hn, fun hk => ?_⟩
              have : 0 < ks.length := List.length_pos_iff.2 hk
              have : 0 < len' * ks.length := Nat.mul_pos (by omega) this
              have hu := g2 0 _ (List.getElem?_eq_getElem (by omega))
              exact World.block_lt_of_cell? w _ hu
          · cases h
        · cases h
      · cases h
  · cases h

/-- An address argument: its block, where in it, how many cells. -/
abbrev PP := List (Nat × Nat × Nat)

def takeArgs (Γ : Gd) (hp : Hp) : List Sh → List S → Option (List A × List B × PP)
  | [], [] => some ([], [], [])
  | .val agg l :: ss, .one agg' cs :: xs => match takeC l cs, takeArgs Γ hp ss xs with
    | some (a, b), some (as, bs, pp) => if agg == agg' && (agg || l.length == 1) then some (a ++ as, b ++ bs, pp) else none
    | _, _ => none
  | .ptr l :: ss, .one false [.ptr [] id off] :: xs => match (ldC Γ hp id off l.length).bind (takeC l), takeArgs Γ hp ss xs with
    | some (a, b), some (as, bs, pp) => if chk Γ hp l.length id off then some (a ++ as, b ++ bs, (id, off, l.length) :: pp) else none
    | _, _ => none
  | .sli ks :: ss, .one false [.slx id ks' q len] :: xs => match takeArgs Γ hp ss xs with
    | some (as, bs, pp) => if cksEq ks ks' then some (q :: len :: as, bs, pp) else none
    | none => none
  | _, _ => none

def ppR (β : Beta) : PP → List Rg → Prop
  | [], [] => True
  | p :: pp, q :: ps => (∃ r, β p.1 = some r ∧ q = { blk := r.blk, off := r.off + p.2.1, len := p.2.2, ro := false } ∧ p.2.1 + p.2.2 ≤ r.len ∧ r.ro = false) ∧ ppR β pp ps
  | _, _ => False

def mtAll (β : Beta) (ρ : Env) : List S → List Value → Prop
  | [], [] => True
  | s :: ss, v :: vs => s.mt β ρ v ∧ mtAll β ρ ss vs
  | _, _ => False

theorem chk_spec {Γ : Gd} {hp : Hp} {ρ : Env} {β : Beta} {w : World} (hΓ : Gd.d ρ Γ = true) (hh : heapMt β ρ hp w) {n i o : Nat} (h : chk Γ hp n i o = true) :
    ∃ b r, hp i = some b ∧ Gd.d ρ b.g = true ∧ β i = some r ∧ o + n ≤ r.len ∧ r.ro = false ∧ ∀ j, j < n → w.frozen? ⟨r.blk, r.off + o + j, none⟩ = false := by
  unfold chk at h
  split at h
  · rename_i b hb
    simp only [Bool.and_eq_true, Bool.not_eq_true', Nat.ble_eq] at h
    have hg := Gd.sub_d h.1.1 hΓ
    obtain ⟨r, hr, hl, hro, hc, hf⟩ := hh i b hb hg
    refine ⟨b, r, hb, hg, hr, by omega, hro.trans h.1.2, fun j hj => ?_⟩
    rw [Nat.add_assoc]
    exact hf h.1.2 _ (by omega)
  · cases h

theorem takeArgs_flat {Γ : Gd} {hp : Hp} {ρ : Env} {β : Beta} {w : World} (hΓ : Gd.d ρ Γ = true) (hh : heapMt β ρ hp w) (hsq : SqOk β w) : ∀ {ss : List Sh} {xs : List S} {vs : List Value} {as : List A} {bs : List B} {pp : PP},
    takeArgs Γ hp ss xs = some (as, bs, pp) → mtAll β ρ xs vs → ∃ ps, flatArgs ss vs w = some (as.map (A.d ρ), bs.map (B.d ρ), ps) ∧ ppR β pp ps ∧ frzL ps w ∧
      ∀ r, some r ∈ sliRgs ss vs w → ∃ i r0, β i = some r0 ∧ r0.ro = true ∧ r.blk = r0.blk ∧ r.off = r0.off ∧ r.len = r0.len
  | [], [], vs, as, bs, pp, h, hm => by
    simp only [takeArgs, Option.some.injEq, Prod.mk.injEq] at h
    obtain ⟨rfl, rfl, rfl⟩ := h
    cases vs with
    | nil => exact ⟨[], rfl, trivial, fun r hr => (by cases hr), fun r hr => (by simp [sliRgs] at hr)⟩
    | cons _ _ => exact hm.elim
  | .val agg l :: ss, .one agg' cs :: xs, vs, as, bs, pp, h, hm => by
    cases vs with
    | nil => exact hm.elim
    | cons v vs =>
      obtain ⟨h1, h2⟩ := hm
      unfold takeArgs at h
      split at h
      · rename_i a b as' bs' pp' ht hr
        split at h
        · rename_i hc
          simp only [Bool.and_eq_true, beq_iff_eq] at hc
          obtain ⟨rfl, hc⟩ := hc
          simp only [Option.some.injEq, Prod.mk.injEq] at h
          obtain ⟨rfl, rfl, rfl⟩ := h
          obtain ⟨ps, g1, g2, g3, g4⟩ := takeArgs_flat hΓ hh hsq hr h2
          have hf : flat1 [] agg l v = some (a.map (A.d ρ), b.map (B.d ρ)) := by
            unfold flat1
            cases agg
            · obtain ⟨c, rfl, hcm⟩ := h1
              simp only [Bool.false_or, beq_iff_eq] at hc
              match l, hc, ht with
              | [ck], _, ht =>
                simp only [Bool.false_eq_true, if_false]
                exact takeC_flat (vs := [v]) ht ⟨hcm, trivial⟩
            · obtain ⟨us, rfl, hcm⟩ := h1
              simp only [if_true]
              exact takeC_flat ht hcm
          refine ⟨ps, ?_, g2, g3, fun r hr => g4 r (by simpa [sliRgs] using hr)⟩
          unfold flatArgs
          rw [hf, g1]
          simp
        · cases h
      · cases h
  | .ptr l :: ss, .one false [.ptr [] id off] :: xs, vs, as, bs, pp, h, hm => by
    cases vs with
    | nil => exact hm.elim
    | cons v vs =>
      obtain ⟨h1, h2⟩ := hm
      unfold takeArgs at h
      split at h
      · rename_i a b as' bs' pp' ht hr
        split at h
        · rename_i hc
          simp only [Option.some.injEq, Prod.mk.injEq] at h
          obtain ⟨rfl, rfl, rfl⟩ := h
          obtain ⟨ps, g1, g2, g3, g4⟩ := takeArgs_flat hΓ hh hsq hr h2
          obtain ⟨bk, r, hb, hg, hβ, hle, hro, hf⟩ := chk_spec hΓ hh hc
          cases hl : ldC Γ hp id off l.length with
          | none => rw [hl] at ht; simp at ht
          | some cs =>
            rw [hl] at ht
            simp only [Option.bind_some] at ht
            obtain ⟨hlen, r', hr', hcs⟩ := ldC_spec hΓ hh hl
            rw [hβ] at hr'
            cases hr'
            obtain ⟨us, hul, hum, hu⟩ := cellsAt_values hcs
            obtain ⟨r'', hr'', hv⟩ := mt_cell (s := .one false [.ptr [] id off]) rfl h1
            simp only [pick] at hr'' hv
            rw [hβ] at hr''
            cases hr''
            refine ⟨{ blk := r.blk, off := r.off + off, len := l.length, ro := false } :: ps, ?_, ⟨⟨r, hβ, rfl, hle, hro⟩, g2⟩, ?_, fun r hr => g4 r (by simpa [sliRgs] using hr)⟩
            · unfold flatArgs
              subst hv
              simp only [g1]
              have hrd : readCells w r.blk (r.off + off) l.length = some us := by
                rw [← hlen, ← hul]; exact readCells_mk hu
              rw [hrd]
              simp only [Option.bind_some]
              rw [takeC_flat ht hum]
              simp
            · intro q hq j hj
              rcases List.mem_cons.1 hq with rfl | hq
              · exact hf j hj
              · exact g3 q hq j hj
        · cases h
      · cases h
  | .sli ks :: ss, .one false [.slx id ks' q len] :: xs, vs, as, bs, pp, h, hm => by
    cases vs with
    | nil => exact hm.elim
    | cons v vs =>
      obtain ⟨h1, h2⟩ := hm
      unfold takeArgs at h
      split at h
      · rename_i as' bs' pp' hr
        split at h
        · rename_i hk
          have := cksEq_sound hk
          subst this
          simp only [Option.some.injEq, Prod.mk.injEq] at h
          obtain ⟨rfl, rfl, rfl⟩ := h
          obtain ⟨ps, g1, g2, g3, g4⟩ := takeArgs_flat hΓ hh hsq hr h2
          obtain ⟨l, r, k1, k2, k3⟩ := flatSl_of hsq (mt_cell (s := .one false [.slx id ks q len]) rfl h1)
          refine ⟨ps, ?_, g2, g3, fun r' hr' => ?_⟩
          · unfold flatArgs
            rw [k1, g1]
            simp [k2]
          · unfold sliRgs at hr'
            rw [k1] at hr'
            rcases List.mem_cons.1 hr' with e | hr'
            · exact k3 r' e.symm
            · exact g4 r' hr'
        · cases h
      · cases h
  | [], _ :: _, _, _, _, _, h, _ => by simp [takeArgs] at h
  | .val _ _ :: _, [], _, _, _, _, h, _ => by simp [takeArgs] at h
  | .sli _ :: _, [], _, _, _, _, h, _ => by simp [takeArgs] at h
  | .sli _ :: _, .tup _ :: _, _, _, _, _, h, _ => by simp [takeArgs] at h
  | .sli _ :: _, .any :: _, _, _, _, _, h, _ => by simp [takeArgs] at h
  | .sli _ :: _, .one true _ :: _, _, _, _, _, h, _ => by simp [takeArgs] at h
  | .sli _ :: _, .one false [] :: _, _, _, _, _, h, _ => by simp [takeArgs] at h
  | .sli _ :: _, .one false (.int _ _ :: _) :: _, _, _, _, _, h, _ => by simp [takeArgs] at h
  | .sli _ :: _, .one false (.bool _ :: _) :: _, _, _, _, _, h, _ => by simp [takeArgs] at h
  | .sli _ :: _, .one false (.ptr _ _ _ :: _) :: _, _, _, _, _, h, _ => by simp [takeArgs] at h
  | .sli _ :: _, .one false (.pix _ _ _ _ _ _ :: _) :: _, _, _, _, _, h, _ => by simp [takeArgs] at h
  | .sli _ :: _, .one false (.sli _ _ _ _ :: _) :: _, _, _, _, _, h, _ => by simp [takeArgs] at h
  | .sli _ :: _, .one false (.pxq _ _ _ _ _ :: _) :: _, _, _, _, _, h, _ => by simp [takeArgs] at h
  | .sli _ :: _, .one false (.val _ :: _) :: _, _, _, _, _, h, _ => by simp [takeArgs] at h
  | .sli _ :: _, .one false (.str _ :: _) :: _, _, _, _, _, h, _ => by simp [takeArgs] at h
  | .sli _ :: _, .one false (.fn _ _ :: _) :: _, _, _, _, _, h, _ => by simp [takeArgs] at h
  | .sli _ :: _, .one false (.mp _ :: _) :: _, _, _, _, _, h, _ => by simp [takeArgs] at h
  | .sli _ :: _, .one false (.junk :: _) :: _, _, _, _, _, h, _ => by simp [takeArgs] at h
  | .sli _ :: _, .one false (.slx _ _ _ _ :: _ :: _) :: _, _, _, _, _, h, _ => by simp [takeArgs] at h
  | .ptr _ :: _, .one false (.slx _ _ _ _ :: _) :: _, _, _, _, _, h, _ => by simp [takeArgs] at h
  | .ptr _ :: _, .one false (.pxq _ _ _ _ _ :: _) :: _, _, _, _, _, h, _ => by simp [takeArgs] at h
  | .ptr _ :: _, [], _, _, _, _, h, _ => by simp [takeArgs] at h
  | .val _ _ :: _, .tup _ :: _, _, _, _, _, h, _ => by simp [takeArgs] at h
  | .val _ _ :: _, .any :: _, _, _, _, _, h, _ => by simp [takeArgs] at h
  | .ptr _ :: _, .tup _ :: _, _, _, _, _, h, _ => by simp [takeArgs] at h
  | .ptr _ :: _, .any :: _, _, _, _, _, h, _ => by simp [takeArgs] at h
  | .ptr _ :: _, .one true _ :: _, _, _, _, _, h, _ => by simp [takeArgs] at h
  | .ptr _ :: _, .one false [] :: _, _, _, _, _, h, _ => by simp [takeArgs] at h
  | .ptr _ :: _, .one false (.int _ _ :: _) :: _, _, _, _, _, h, _ => by simp [takeArgs] at h
  | .ptr _ :: _, .one false (.bool _ :: _) :: _, _, _, _, _, h, _ => by simp [takeArgs] at h
  | .ptr _ :: _, .one false (.pix _ _ _ _ _ _ :: _) :: _, _, _, _, _, h, _ => by simp [takeArgs] at h
  | .ptr _ :: _, .one false (.sli _ _ _ _ :: _) :: _, _, _, _, _, h, _ => by simp [takeArgs] at h
  | .ptr _ :: _, .one false (.val _ :: _) :: _, _, _, _, _, h, _ => by simp [takeArgs] at h
  | .ptr _ :: _, .one false (.junk :: _) :: _, _, _, _, _, h, _ => by simp [takeArgs] at h
  | .ptr _ :: _, .one false (.ptr (_ :: _) _ _ :: _) :: _, _, _, _, _, h, _ => by simp [takeArgs] at h
  | .ptr _ :: _, .one false (.ptr [] _ _ :: _ :: _) :: _, _, _, _, _, h, _ => by simp [takeArgs] at h

/-! ### The addresses lie apart -/
def apartS : PP → Bool
  | [] => true
  | p :: pp => (pp.all fun q => !(p.1 == q.1) || Nat.ble (p.2.1 + p.2.2) q.2.1 || Nat.ble (q.2.1 + q.2.2) p.2.1) && apartS pp
theorem ppR_mem {β : Beta} : ∀ {pp : PP} {ps : List Rg}, ppR β pp ps → ∀ q, q ∈ ps → ∃ p r, p ∈ pp ∧ β p.1 = some r ∧ q = { blk := r.blk, off := r.off + p.2.1, len := p.2.2, ro := false } ∧ p.2.1 + p.2.2 ≤ r.len ∧ r.ro = false
  | [], [], _, q, h => by cases h
  | p :: pp, q' :: ps, ⟨h1, h2⟩, q, h => by
    rcases List.mem_cons.1 h with rfl | h
    · obtain ⟨r, hr⟩ := h1; exact ⟨p, r, by simp, hr⟩
    · obtain ⟨p', r, hp, hr⟩ := ppR_mem h2 q h; exact ⟨p', r, by simp [hp], hr⟩
theorem apartL_of {N : Nat} {R : List Rg} {β : Beta} {w : World} (hb : BetaOk N R β w) : ∀ {pp : PP} {ps : List Rg}, ppR β pp ps → apartS pp = true → apartL ps
  | [], [], _, _ => trivial
  | p :: pp, q :: ps, ⟨⟨r, hr, hq, hle, hro⟩, h2⟩, h => by
    unfold apartS at h
    simp only [Bool.and_eq_true, List.all_eq_true] at h
    refine ⟨fun q' hq' => ?_, apartL_of hb h2 h.2⟩
    obtain ⟨p', r', hp', hr', rfl, hle', _⟩ := ppR_mem h2 q' hq'
    subst hq
    have hs := h.1 p' hp'
    simp only [Bool.or_eq_true, Bool.not_eq_true', beq_eq_false_iff_ne, ne_eq, Nat.ble_eq] at hs
    unfold Rg.apart
    simp only
    by_cases e : p.1 = p'.1
    · rw [e] at hr
      rw [hr] at hr'
      cases hr'
      omega
    · have := (hb.apart _ _ _ _ e hr hr').resolve_left fun hh => by rw [hh.1] at hro; cases hro
      unfold Rg.apart at this
      omega

/-! ### What was there is forgotten; then what was answered is laid -/
def junkAll : Hp → PP → Option Hp
  | hp, [] => some hp
  | hp, (id, off, n) :: l => match hp id with
    | some b => if Nat.ble (off + n) b.cells.length then junkAll (hp.set id { b with cells := setAt b.cells off (List.replicate n .junk) }) l else none
    | none => none
theorem heapMt_set {β : Beta} {ρ : Env} {hp : Hp} {w : World} (hh : heapMt β ρ hp w) {id : Nat} {b : Blk} (hb : Gd.d ρ b.g = true → blkMt β ρ w id b) : heapMt β ρ (hp.set id b) w := by
  intro j bj hj hg
  unfold Hp.set at hj
  by_cases e : j = id
  · subst e
    simp only [BEq.rfl, if_true, Option.some.injEq] at hj
    subst hj
    exact hb hg
  · have : (j == id) = false := by simpa using e
    rw [this] at hj
    exact hh j bj hj hg
theorem junkAll_heap {β : Beta} {ρ : Env} {w : World} : ∀ {pp : PP} {hp hp0 : Hp}, junkAll hp pp = some hp0 → heapMt β ρ hp w → heapMt β ρ hp0 w
  | [], hp, hp0, h, hh => by simp only [junkAll, Option.some.injEq] at h; exact h ▸ hh
  | (id, off, n) :: l, hp, hp0, h, hh => by
    unfold junkAll at h
    split at h
    · rename_i b hb
      split at h
      · rename_i hle
        simp only [Nat.ble_eq] at hle
        refine junkAll_heap h (heapMt_set hh fun hg => ?_)
        have hm := hh id b hb hg
        refine blk_setAt (by simpa using hle) hm (fun r hr => ?_) (fun _ _ _ _ _ => rfl) (fun _ _ _ => rfl)
        obtain ⟨r', hr', hl, _, hc, _⟩ := hm
        rw [hr] at hr'
        cases hr'
        rw [cellsAt_iff] at *
        intro j c hj
        rw [List.getElem?_replicate] at hj
        split at hj
        · rename_i hjn
          simp only [Option.some.injEq] at hj
          subst hj
          obtain ⟨v, hv, hm⟩ := hc (off + j) _ (List.getElem?_eq_getElem (by omega))
          exact ⟨v, by rw [Nat.add_assoc]; exact hv, C.mt_oneCell hm⟩
        · cases hj
      · cases h
    · cases h
def Junk (hp : Hp) (p : Nat × Nat × Nat) : Prop := ∀ b, hp p.1 = some b → ∀ j, p.2.1 ≤ j → j < p.2.1 + p.2.2 → b.cells[j]? = some .junk
theorem setAt_get {l z : List C} {off j : Nat} (hle : off + z.length ≤ l.length) : (setAt l off z)[j]? = if j < off then l[j]? else if j < off + z.length then z[j - off]? else l[j]? := by
  unfold setAt
  rw [List.append_assoc]
  split
  · rename_i h1
    rw [List.getElem?_append_left (by simp; omega), List.getElem?_take, if_pos h1]
  · rename_i h1
    rw [List.getElem?_append_right (by simp; omega)]
    simp only [List.length_take, Nat.min_eq_left (show off ≤ l.length by omega)]
    split
    · rename_i h2
      rw [List.getElem?_append_left (by omega)]
    · rename_i h2
      rw [List.getElem?_append_right (by omega), List.getElem?_drop]
      congr 1
      omega
theorem junkAll_junk : ∀ {pp : PP} {hp hp0 : Hp} {done : PP}, junkAll hp pp = some hp0 → (∀ p, p ∈ done → Junk hp p) → ∀ p, p ∈ done ++ pp → Junk hp0 p
  | [], hp, hp0, done, h, hd, p, hp' => by simp only [junkAll, Option.some.injEq] at h; subst h; exact hd p (by simpa using hp')
  | (id, off, n) :: l, hp, hp0, done, h, hd, p, hp' => by
    unfold junkAll at h
    split at h
    · rename_i b hb
      split at h
      · rename_i hle
        simp only [Nat.ble_eq] at hle
        refine junkAll_junk (done := done ++ [(id, off, n)]) h (fun q hq => ?_) p (by simpa using hp')
        intro b' hb' j h1 h2
        unfold Hp.set at hb'
        by_cases e : q.1 = id
        · rw [e] at hb'
          simp only [BEq.rfl, if_true, Option.some.injEq] at hb'
          subst hb'
          simp only
          rw [setAt_get (by simpa using hle)]
          simp only [List.length_replicate]
          rcases List.mem_append.1 hq with hq | hq
          · have := hd q hq b (by rw [e]; exact hb) j h1 h2
            split
            · exact this
            · split
              · rw [List.getElem?_replicate, if_pos (by omega)]
              · exact this
          · simp only [List.mem_singleton] at hq
            subst hq
            simp only at h1 h2
            rw [if_neg (by omega), if_pos h2, List.getElem?_replicate, if_pos (by omega)]
        · have : (q.1 == id) = false := by simpa using e
          rw [this] at hb'
          rcases List.mem_append.1 hq with hq | hq
          · exact hd q hq b' hb' j h1 h2
          · simp only [List.mem_singleton] at hq
            subst hq
            exact absurd rfl e
      · cases h
    · cases h
def lensOk : List (List CK) → List Rg → Prop
  | [], [] => True
  | l :: ls, r :: rs => r.len = l.length ∧ lensOk ls rs
  | _, _ => False
theorem flatArgs_lens {w : World} : ∀ {ss : List Sh} {vs : List Value} {is : List Int} {bs : List Bool} {ps : List Rg}, flatArgs ss vs w = some (is, bs, ps) → lensOk (ptrShapes ss) ps
  | [], [], is, bs, ps, h => by
    simp only [flatArgs, Option.some.injEq, Prod.mk.injEq] at h
    obtain ⟨_, _, rfl⟩ := h
    exact trivial
  | .val agg l :: ss, v :: vs, is, bs, ps, h => by
    unfold flatArgs at h
    split at h
    · rename_i i b is' bs' ps' h1 h2
      simp only [Option.some.injEq, Prod.mk.injEq] at h
      obtain ⟨_, _, rfl⟩ := h
      exact flatArgs_lens (ss := ss) h2
    · cases h
  | .ptr l :: ss, v :: vs, is, bs, ps, h => by
    unfold flatArgs at h
    split at h
    · rename_i b o is' bs' ps' h2
      split at h
      · simp only [Option.some.injEq, Prod.mk.injEq] at h
        obtain ⟨_, _, rfl⟩ := h
        exact ⟨rfl, flatArgs_lens h2⟩
      · cases h
    · cases h
  | .sli ks :: ss, v :: vs, is, bs, ps, h => by
    unfold flatArgs at h
    split at h
    · rename_i l n r is' bs' ps' h1 h2
      simp only [Option.some.injEq, Prod.mk.injEq] at h
      obtain ⟨_, _, rfl⟩ := h
      exact flatArgs_lens (ss := ss) h2
    · cases h
  | .sli _ :: _, [], _, _, _, h => by simp [flatArgs] at h
  | [], _ :: _, _, _, _, h => by simp [flatArgs] at h
  | .val _ _ :: _, [], _, _, _, h => by simp [flatArgs] at h
  | .ptr _ :: _, [], _, _, _, h => by simp [flatArgs] at h
theorem flatPs_cells {w : World} : ∀ {ls : List (List CK)} {ps : List Rg} {f : Fl}, flatPs w ls ps = some f → lensOk ls ps → ∀ q, q ∈ ps → ∀ j, j < q.len → ∃ v, w.cell? ⟨q.blk, q.off + j, none⟩ = some v ∧ oneCell v = true
  | [], [], f, h, _, q, hq, _, _ => by cases hq
  | l :: ls, r :: rs, f, h, ⟨hl, hls⟩, q, hq, j, hj => by
    unfold flatPs at h
    split at h
    · rename_i i b is bs h1 h2
      rcases List.mem_cons.1 hq with rfl | hq
      · cases hr : readCells w q.blk q.off l.length with
        | none => rw [hr] at h1; simp at h1
        | some vs =>
          rw [hr] at h1
          simp only [Option.bind_some] at h1
          obtain ⟨g1, g2⟩ := readCells_get hr
          have hlt : j < vs.length := by omega
          exact ⟨vs[j], g2 j _ (List.getElem?_eq_getElem hlt), flatC_oneCell h1 _ (List.getElem_mem hlt)⟩
      · exact flatPs_cells h2 hls q hq j hj
    · cases h
  | [], _ :: _, f, h, _, _, _, _, _ => by simp [flatPs] at h
  | _ :: _, [], f, h, _, _, _, _, _ => by simp [flatPs] at h

/-- Behind the call: what is known, but for what the addresses reach. -/
theorem junk_move {N : Nat} {R : List Rg} {β : Beta} {ρ : Env} {w w' : World} {hp : Hp} {pp : PP} {ps : List Rg} (hb : BetaOk N R β w) (hh : heapMt β ρ hp w) (hj : ∀ p, p ∈ pp → Junk hp p) (hpp : ppR β pp ps) (hk : Keep ps w w')
    (hc : ∀ q, q ∈ ps → ∀ j, j < q.len → ∃ v, w'.cell? ⟨q.blk, q.off + j, none⟩ = some v ∧ oneCell v = true) : heapMt β ρ hp w' := by
  intro id b hb' hg
  obtain ⟨r, hr, hl, hro, hcs, hf⟩ := hh id b hb' hg
  have hpl := hb.place id r hr
  refine ⟨r, hr, hl, hro, ?_, fun h0 j hj => (hk.frz _ hpl).trans (hf h0 j hj)⟩
  rw [cellsAt_iff] at *
  intro j c hjc
  have hjl := (List.getElem?_eq_some_iff.1 hjc).1
  by_cases hin : ∃ q, q ∈ ps ∧ inRg q ⟨r.blk, r.off + j, none⟩
  · obtain ⟨q, hq, hi⟩ := hin
    obtain ⟨p, r', hp', hr', rfl, hle, hro'⟩ := ppR_mem hpp q hq
    unfold inRg at hi
    simp only at hi
    have hid : p.1 = id := by
      apply Classical.byContradiction
      intro hne
      have := (hb.apart _ _ _ _ hne hr' hr).resolve_left fun hh => by rw [hh.1] at hro'; cases hro'
      unfold Rg.apart at this
      omega
    subst hid
    rw [hr] at hr'
    cases hr'
    have := hj p hp' b hb' j (by omega) (by omega)
    rw [hjc] at this
    simp only [Option.some.injEq] at this
    subst this
    obtain ⟨v, hv, ho⟩ := hc _ hq (j - p.2.1) (by simp only; omega)
    simp only at hv
    rw [show r.off + p.2.1 + (j - p.2.1) = r.off + j by omega] at hv
    exact ⟨v, hv, ho⟩
  · obtain ⟨v, hv, hm⟩ := hcs j c hjc
    exact ⟨v, (hk.cell _ hpl fun q hq hi => hin ⟨q, hq, hi⟩).trans hv, hm⟩

def fillAll (FI : Nat → A) (FB : Nat → B) : Hp → PP → List (List CK) → Nat → Nat → Option Hp
  | hp, [], [], _, _ => some hp
  | hp, (id, off, n) :: l, ck :: cks, i, b => match hp id with
    | some bk => if Nat.ble (off + ck.length) bk.cells.length then fillAll FI FB (hp.set id { bk with cells := setAt bk.cells off (freshC FI FB [] ck i b) }) l cks (i + nI ck) (b + nB ck) else none
    | none => none
  | _, _, _, _, _ => none
theorem getD_append_left {α : Type} (l m : List α) (j : Nat) (d : α) (h : j < l.length) : (l ++ m).getD j d = l.getD j d := by
  simp [List.getD_eq_getElem?_getD, List.getElem?_append_left h]
theorem getD_append_right {α : Type} (l m : List α) (j : Nat) (d : α) : (l ++ m).getD (l.length + j) d = m.getD j d := by
  rw [List.getD_eq_getElem?_getD, List.getElem?_append_right (by omega), Nat.add_sub_cancel_left, ← List.getD_eq_getElem?_getD]
def sumI : List (List CK) → Nat
  | [] => 0
  | l :: ls => nI l + sumI ls
def sumB : List (List CK) → Nat
  | [] => 0
  | l :: ls => nB l + sumB ls
theorem flatPs_len {w : World} : ∀ {ls : List (List CK)} {ps : List Rg} {f : Fl}, flatPs w ls ps = some f → f.1.length = sumI ls ∧ f.2.length = sumB ls
  | [], [], f, h => by simp only [flatPs, Option.some.injEq] at h; subst h; exact ⟨rfl, rfl⟩
  | l :: ls, r :: rs, f, h => by
    unfold flatPs at h
    split at h
    · rename_i i b is bs h1 h2
      simp only [Option.some.injEq] at h
      subst h
      cases hr : readCells w r.blk r.off l.length with
      | none => rw [hr] at h1; simp at h1
      | some vs =>
        rw [hr] at h1
        simp only [Option.bind_some] at h1
        have e1 := flatC_len h1
        have e2 := flatPs_len h2
        simp only [sumI, sumB, List.length_append] at e1 e2 ⊢
        omega
    · cases h
  | [], _ :: _, f, h => by simp [flatPs] at h
  | _ :: _, [], f, h => by simp [flatPs] at h
theorem fillAll_heap {FI : Nat → A} {FB : Nat → B} {β : Beta} {ρ : Env} {w : World} : ∀ {pp : PP} {ps : List Rg} {ls : List (List CK)} {hp hp1 : Hp} {i b : Nat} {f : Fl}, fillAll FI FB hp pp ls i b = some hp1 → ppR β pp ps → flatPs w ls ps = some f →
    (∀ j, j < sumI ls → (FI (i + j)).d ρ = f.1.getD j 0) → (∀ j, j < sumB ls → (FB (b + j)).d ρ = f.2.getD j false) → heapMt β ρ hp w → heapMt β ρ hp1 w
  | [], [], [], hp, hp1, i, b, f, h, _, _, _, _, hh => by simp only [fillAll, Option.some.injEq] at h; exact h ▸ hh
  | (id, off, n) :: pp, q :: ps, ck :: cks, hp, hp1, i, b, f, h, ⟨⟨r, hr, hq, hle2, hro⟩, hpp⟩, hf, hi, hbo, hh => by
    unfold fillAll at h
    split at h
    · rename_i bk hbk
      split at h
      · rename_i hle
        simp only [Nat.ble_eq] at hle
        unfold flatPs at hf
        split at hf
        · rename_i i1 b1 is bs h1 h2
          simp only [Option.some.injEq] at hf
          subst hf
          cases hrd : readCells w q.blk q.off ck.length with
          | none => rw [hrd] at h1; simp at h1
          | some vs =>
            rw [hrd] at h1
            simp only [Option.bind_some] at h1
            have e1 := flatC_len h1
            have hm := freshC_mt (FI := FI) (FB := FB) (β := β) (ρ := ρ) (ps := []) (pp := []) trivial (i := i) (b := b) h1
              (fun j hj => by have := hi j (by simp only [sumI]; omega); rwa [getD_append_left _ _ _ _ (by simp only at e1; omega)] at this)
              (fun j hj => by have := hbo j (by simp only [sumB]; omega); rwa [getD_append_left _ _ _ _ (by simp only at e1; omega)] at this)
            refine fillAll_heap h hpp h2 (fun j hj => ?_) (fun j hj => ?_) (heapMt_set hh fun hg => ?_)
            · have := hi (nI ck + j) (by simp only [sumI]; omega)
              rw [show i + nI ck + j = i + (nI ck + j) by omega, this]
              simp only at e1
              rw [← e1.1, getD_append_right]
            · have := hbo (nB ck + j) (by simp only [sumB]; omega)
              rw [show b + nB ck + j = b + (nB ck + j) by omega, this]
              simp only at e1
              rw [← e1.2.1, getD_append_right]
            · refine blk_setAt (by rw [freshC_length]; exact hle) (hh id bk hbk hg) (fun r' hr' => ?_) (fun _ _ _ _ _ => rfl) (fun _ _ _ => rfl)
              simp only at hr hq hr'
              rw [hr] at hr'
              cases hr'
              subst hq
              exact cellsAt_of_read hrd hm
        · cases hf
      · cases h
    · cases h
  | [], [], _ :: _, _, _, _, _, _, h, _, _, _, _, _ => by simp [fillAll] at h
  | _ :: _, _, [], _, _, _, _, _, h, _, _, _, _, _ => by simp [fillAll] at h
  | [], _ :: _, _, _, _, _, _, _, _, hpp, _, _, _, _ => hpp.elim
  | _ :: _, [], _ :: _, _, _, _, _, _, _, hpp, _, _, _, _ => hpp.elim

/-! ### The answer -/
def freshT (FI : Nat → A) (FB : Nat → B) (pp : List (Nat × Nat)) : List (Bool × List CK) → Nat → Nat → List (Bool × List C)
  | [], _, _ => []
  | p :: l, i, b => (p.1, freshC FI FB pp p.2 i b) :: freshT FI FB pp l (i + nI p.2) (b + nB p.2)
def freshS (FI : Nat → A) (FB : Nat → B) (pp : List (Nat × Nat)) (s : Sum) (i b : Nat) : S :=
  if s.tup then .tup (freshT FI FB pp s.res i b) else match s.res with
    | [p] => .one p.1 (freshC FI FB pp p.2 i b)
    | _ => .any
def resI : List (Bool × List CK) → Nat
  | [] => 0
  | p :: l => nI p.2 + resI l
def resB : List (Bool × List CK) → Nat
  | [] => 0
  | p :: l => nB p.2 + resB l
theorem flat1_inv {ps : List Rg} {agg : Bool} {l : List CK} {v : Value} {f : Fl} (h : flat1 ps agg l v = some f) : (∃ vs, flatC ps l vs = some f ∧ (if agg then v = .agg vs.toArray else vs = [v])) := by
  unfold flat1 at h
  cases agg
  · simp only [Bool.false_eq_true, if_false] at h
    split at h
    · exact ⟨[v], h, by simp⟩
    · cases h
  · simp only [if_true] at h
    split at h
    · rename_i vs; exact ⟨vs.toList, h, by simp⟩
    · cases h
theorem fresh1_mt {FI : Nat → A} {FB : Nat → B} {β : Beta} {ρ : Env} {ps : List Rg} {pp : List (Nat × Nat)} (hpp : ppOk β pp ps) {agg : Bool} {l : List CK} {v : Value} {f : Fl} {i b : Nat} (h : flat1 ps agg l v = some f)
    (hi : ∀ j, j < nI l → (FI (i + j)).d ρ = f.1.getD j 0) (hb : ∀ j, j < nB l → (FB (b + j)).d ρ = f.2.getD j false) : mt1 β ρ agg (freshC FI FB pp l i b) v ∧ f.1.length = nI l ∧ f.2.length = nB l := by
  obtain ⟨vs, hf, hv⟩ := flat1_inv h
  have hm := freshC_mt hpp hf hi hb
  have hl := flatC_len hf
  refine ⟨?_, hl.1, hl.2.1⟩
  unfold mt1
  cases agg
  · simp only [Bool.false_eq_true, if_false] at hv ⊢
    subst hv
    match hc : freshC FI FB pp l i b, hm with
    | [c], hm => exact ⟨c, rfl, hm.1⟩
  · simp only [if_true] at hv ⊢
    exact ⟨vs.toArray, hv, by simpa using hm⟩
theorem freshT_mt {FI : Nat → A} {FB : Nat → B} {β : Beta} {ρ : Env} {ps : List Rg} {pp : List (Nat × Nat)} (hpp : ppOk β pp ps) : ∀ {l : List (Bool × List CK)} {vs : List Value} {f : Fl} {i b : Nat}, flatTup ps l vs = some f →
    (∀ j, j < resI l → (FI (i + j)).d ρ = f.1.getD j 0) → (∀ j, j < resB l → (FB (b + j)).d ρ = f.2.getD j false) → mtT β ρ (freshT FI FB pp l i b) vs ∧ f.1.length = resI l ∧ f.2.length = resB l
  | [], [], f, i, b, h, _, _ => by simp only [flatTup, Option.some.injEq] at h; subst h; exact ⟨trivial, rfl, rfl⟩
  | p :: l, v :: vs, f, i, b, h, hi, hb => by
    unfold flatTup at h
    split at h
    · rename_i i1 b1 is bs h1 h2
      simp only [Option.some.injEq] at h
      subst h
      have hl : i1.length = nI p.2 ∧ b1.length = nB p.2 := by
        obtain ⟨us, hf, _⟩ := flat1_inv h1
        have := flatC_len hf
        exact ⟨this.1, this.2.1⟩
      obtain ⟨g1, _, _⟩ := fresh1_mt (ρ := ρ) (i := i) (b := b) hpp h1
        (fun j hj => by have := hi j (by simp only [resI]; omega); rwa [getD_append_left _ _ _ _ (by omega)] at this)
        (fun j hj => by have := hb j (by simp only [resB]; omega); rwa [getD_append_left _ _ _ _ (by omega)] at this)
      obtain ⟨g2, g3, g4⟩ := freshT_mt (i := i + nI p.2) (b := b + nB p.2) hpp h2
        (fun j hj => by
          have := hi (nI p.2 + j) (by simp only [resI]; omega)
          rw [show i + nI p.2 + j = i + (nI p.2 + j) by omega, this, ← hl.1, getD_append_right])
        (fun j hj => by
          have := hb (nB p.2 + j) (by simp only [resB]; omega)
          rw [show b + nB p.2 + j = b + (nB p.2 + j) by omega, this, ← hl.2, getD_append_right])
      refine ⟨⟨g1, g2⟩, ?_, ?_⟩
      · simp only [resI, List.length_append] at g3 ⊢; omega
      · simp only [resB, List.length_append] at g4 ⊢; omega
    · cases h
  | [], _ :: _, f, _, _, h, _, _ => by simp [flatTup] at h
  | _ :: _, [], f, _, _, h, _, _ => by simp [flatTup] at h
theorem freshS_mt {FI : Nat → A} {FB : Nat → B} {β : Beta} {ρ : Env} {ps : List Rg} {pp : List (Nat × Nat)} (hpp : ppOk β pp ps) {s : Sum} {v : Value} {f : Fl} {i b : Nat} (h : flatRes ps s v = some f)
    (hi : ∀ j, j < resI s.res → (FI (i + j)).d ρ = f.1.getD j 0) (hb : ∀ j, j < resB s.res → (FB (b + j)).d ρ = f.2.getD j false) : (freshS FI FB pp s i b).mt β ρ v ∧ f.1.length = resI s.res ∧ f.2.length = resB s.res := by
  unfold flatRes at h
  unfold freshS
  split at h
  · rename_i ht
    rw [if_pos ht]
    split at h
    · rename_i vs
      obtain ⟨g1, g2⟩ := freshT_mt (i := i) (b := b) hpp h hi hb
      exact ⟨⟨vs, rfl, g1⟩, g2⟩
    · cases h
  · rename_i ht
    rw [if_neg ht]
    split at h
    · rename_i p hres
      rw [hres] at hi hb ⊢
      simp only [resI, resB, Nat.add_zero] at hi hb ⊢
      exact fresh1_mt hpp h hi hb
    · cases h
end Go.Proofs.YtalnndmnnffnmaaGreat.Sx
/-! ## SxK -/
set_option linter.unusedVariables false
set_option linter.unusedSimpArgs false
namespace Go.Proofs.YtalnndmnnffnmaaGreat.Sx
open Go

def newCall (f : Nat) (ai : List A) (ab : List B) (ni nb : Nat) : M (Nat × Nat) := fun c =>
  some ((c.i, c.b), { c with i := c.i + ni, b := c.b + nb }, [.call f ai ab c.i ni c.b nb])
theorem newCall_snd {Φ : Funs} {ρ : Env} (f : Nat) (ai : List A) (ab : List B) (ni nb : Nat) : Snd Φ ρ (newCall f ai ab ni nb) (fun p =>
    (∀ j, j < ni → ρ.i (p.1 + j) = (Φ f (ai.map (A.d ρ)) (ab.map (B.d ρ))).1.getD j 0) ∧ (∀ j, j < nb → ρ.b (p.2 + j) = (Φ f (ai.map (A.d ρ)) (ab.map (B.d ρ))).2.getD j false)) := by
  intro c x c' o he hg
  simp only [newCall, Option.some.injEq, Prod.mk.injEq] at he
  obtain ⟨rfl, rfl, rfl⟩ := he
  exact hg (.call f ai ab c.i ni c.b nb) (by simp)

abbrev Sums := Nat → Option Sum

/-- All functions that have a contract keep it, and can be called. -/
def AllOk (P : Program) (Φ : Funs) (gl : Gl) (X : Sums) : Prop :=
  ∀ f s, X f = some s → (match s.sl with | none => Contract P gl f s (Φ f) | some p => TabContract P gl f p) ∧ (∀ args w, (callFunc f args).run P w = .ok (.enter f args) w) ∧
    ∀ S, s.inl = some S → s.pre = false ∧ ∀ is bs, Φ f is bs = S.run Fun0 false is bs

/-! ### What a callee does, written out -/
def A.sub (is : List A) : A → A
  | .v n => is.getD n (.c 0)
  | .c k => .c k
def B.sub (bs : List B) : B → B
  | .v n => bs.getD n (.c false)
  | .c k => .c k
def mkTab (l : List Int) (a : A) : M A :=
  match a with
  | .c k => pure (.c (l.getD k.toNat 0))
  | a => newI (.tab l a)
theorem mkTab_snd {Φ : Funs} {ρ : Env} (l : List Int) (a : A) : Snd Φ ρ (mkTab l a) (fun x => x.d ρ = l.getD (a.d ρ).toNat 0) := by
  unfold mkTab
  split
  · exact Snd.pure rfl
  · exact newI_snd _
def instI (is : List A) (bs : List B) : RI → M A
  | .ar op k a b => mkAr op k (a.sub is) (b.sub is)
  | .cv k a => mkCv k (a.sub is)
  | .ite c a b => mkIteI (c.sub bs) (a.sub is) (b.sub is)
  | .mn a b => mkMn (a.sub is) (b.sub is)
  | .mx a b => mkMx (a.sub is) (b.sub is)
  | .tab l a => mkTab l (a.sub is)
  | .get q a s k => newI (.get (q.sub is) (a.sub is) s k)
  | .lenq q s => newI (.lenq (q.sub is) s)
def instB (is : List A) (bs : List B) : RB → M B
  | .cm op a b => mkCm op (a.sub is) (b.sub is)
  | .not a => mkNot (a.sub bs)
  | .and a b => mkAnd (a.sub bs) (b.sub bs)
  | .or a b => mkOr (a.sub bs) (b.sub bs)
  | .eqb a b => mkEqb (a.sub bs) (b.sub bs)
  | .ite c a b => mkIteB (c.sub bs) (a.sub bs) (b.sub bs)
  | .getb q a s k => newB (.getb (q.sub is) (a.sub is) s k)
def instE : List Em → List A → List B → M (List A × List B)
  | [], is, bs => pure (is, bs)
  | .di _ r :: l, is, bs => do
    let a ← instI is bs r
    instE l (is ++ [a]) bs
  | .db _ r :: l, is, bs => do
    let b ← instB is bs r
    instE l is (bs ++ [b])
  | .ob _ _ :: l, is, bs => instE l is bs
  | .call _ _ _ _ _ _ _ :: _, _, _ => M.fail
def instS (S : Smry) (ai : List A) (ab : List B) : M ((Nat → A) × (Nat → B)) := do
  let p ← instE S.em ai ab
  pure (fun j => (S.ri.getD j (.c 0)).sub p.1, fun j => (S.rb.getD j (.c false)).sub p.2)
theorem map_getD {α β : Type} (f : α → β) (l : List α) (n : Nat) (d : α) : (l.map f).getD n (f d) = f (l.getD n d) := by
  simp only [List.getD_eq_getElem?_getD, List.getElem?_map]
  cases l[n]? <;> rfl
section
variable {Φ : Funs} {ρ : Env}
theorem A.sub_d (is : List A) (bs : List Bool) (a : A) : (a.sub is).d ρ = a.d (envOf (is.map (A.d ρ)) bs) := by
  cases a with
  | v n => exact (map_getD (A.d ρ) is n (.c 0)).symm
  | c k => rfl
theorem B.sub_d (is : List Int) (bs : List B) (a : B) : (a.sub bs).d ρ = a.d (envOf is (bs.map (B.d ρ))) := by
  cases a with
  | v n => exact (map_getD (B.d ρ) bs n (.c false)).symm
  | c k => rfl
theorem instI_snd (is : List A) (bs : List B) (r : RI) : Snd Φ ρ (instI is bs r) (fun x => x.d ρ = r.d (envOf (is.map (A.d ρ)) (bs.map (B.d ρ)))) := by
  have h1 := fun a => A.sub_d (ρ := ρ) is (bs.map (B.d ρ)) a
  have h2 := fun a => B.sub_d (ρ := ρ) (is.map (A.d ρ)) bs a
  cases r with
  | ar op k a b => exact (mkAr_snd _ _ _ _).mono fun x hx => by rw [hx, h1, h1]; rfl
  | cv k a => exact (mkCv_snd _ _).mono fun x hx => by rw [hx, h1]; rfl
  | ite c a b => exact (mkIteI_snd _ _ _).mono fun x hx => by rw [hx, h1, h1, h2]; rfl
  | mn a b => exact (mkMn_snd _ _).mono fun x hx => by rw [hx, h1, h1]; rfl
  | mx a b => exact (mkMx_snd _ _).mono fun x hx => by rw [hx, h1, h1]; rfl
  | tab l a => exact (mkTab_snd _ _).mono fun x hx => by rw [hx, h1]; rfl
  | get q a s k => exact (newI_snd _).mono fun x hx => by rw [hx]; simp only [RI.d, h1]
  | lenq q s => exact (newI_snd _).mono fun x hx => by rw [hx]; simp only [RI.d, h1]
theorem instB_snd (is : List A) (bs : List B) (r : RB) : Snd Φ ρ (instB is bs r) (fun x => x.d ρ = r.d (envOf (is.map (A.d ρ)) (bs.map (B.d ρ)))) := by
  have h1 := fun a => A.sub_d (ρ := ρ) is (bs.map (B.d ρ)) a
  have h2 := fun a => B.sub_d (ρ := ρ) (is.map (A.d ρ)) bs a
  cases r with
  | cm op a b => exact (mkCm_snd _ _ _).mono fun x hx => by rw [hx, h1, h1]; rfl
  | not a => exact (mkNot_snd _).mono fun x hx => by rw [hx, h2]; rfl
  | and a b => exact (mkAnd_snd _ _).mono fun x hx => by rw [hx, h2, h2]; rfl
  | or a b => exact (mkOr_snd _ _).mono fun x hx => by rw [hx, h2, h2]; rfl
  | eqb a b => exact (mkEqb_snd _ _).mono fun x hx => by rw [hx, h2, h2]; rfl
  | ite c a b => exact (mkIteB_snd _ _ _).mono fun x hx => by rw [hx, h2, h2, h2]; rfl
  | getb q a s k => exact (newB_snd _).mono fun x hx => by rw [hx]; simp only [RB.d, h1]
theorem instE_snd : ∀ (l : List Em) (is : List A) (bs : List B), Snd Φ ρ (instE l is bs) (fun p => (p.1.map (A.d ρ), p.2.map (B.d ρ)) = evEm Fun0 l (is.map (A.d ρ)) (bs.map (B.d ρ)))
  | [], is, bs => Snd.pure rfl
  | .di _ r :: l, is, bs => by
    unfold instE
    refine Snd.bind (instI_snd is bs r) fun a ha => (instE_snd l _ _).mono fun p hp => ?_
    rw [hp, evEm, List.map_append, List.map_singleton, ha]
  | .db _ r :: l, is, bs => by
    unfold instE
    refine Snd.bind (instB_snd is bs r) fun a ha => (instE_snd l _ _).mono fun p hp => ?_
    rw [hp, evEm, List.map_append, List.map_singleton, ha]
  | .ob _ _ :: l, is, bs => by
    unfold instE
    exact (instE_snd l _ _).mono fun p hp => by rw [hp, evEm]
  | .call _ _ _ _ _ _ _ :: _, _, _ => Snd.fail
theorem instS_snd (S : Smry) (ai : List A) (ab : List B) : Snd Φ ρ (instS S ai ab) (fun p =>
    (∀ j, (p.1 j).d ρ = (S.run Fun0 false (ai.map (A.d ρ)) (ab.map (B.d ρ))).1.getD j 0) ∧ (∀ j, (p.2 j).d ρ = (S.run Fun0 false (ai.map (A.d ρ)) (ab.map (B.d ρ))).2.getD j false)) := by
  unfold instS
  refine Snd.bind (instE_snd S.em ai ab) fun p hp => Snd.pure ⟨fun j => ?_, fun j => ?_⟩
  · simp only [Smry.run, ← hp]
    rw [A.sub_d p.1 (p.2.map (B.d ρ))]
    exact (map_getD (A.d (envOf (p.1.map (A.d ρ)) (p.2.map (B.d ρ)))) S.ri j (.c 0)).symm
  · simp only [Smry.run, ← hp, Bool.false_eq_true, if_false, List.nil_append]
    rw [B.sub_d (p.1.map (A.d ρ)) p.2]
    exact (map_getD (B.d (envOf (p.1.map (A.d ρ)) (p.2.map (B.d ρ)))) S.rb j (.c false)).symm
end
def callM (s : Sum) (f : Nat) (ai : List A) (ab : List B) (ni nb : Nat) : M ((Nat → A) × (Nat → B)) :=
  match s.inl with
  | some S => instS S ai ab
  | none => do
    let n ← newCall f ai ab ni nb
    pure (fun j => .v (n.1 + j), fun j => .v (n.2 + j))

def ppIds : PP → List Nat
  | [] => []
  | p :: l => if (ppIds l).contains p.1 then ppIds l else p.1 :: ppIds l
theorem ppIds_mem : ∀ {pp : PP} {p : Nat × Nat × Nat}, p ∈ pp → p.1 ∈ ppIds pp
  | q :: l, p, h => by
    unfold ppIds
    rcases List.mem_cons.1 h with rfl | h
    · split
      · rename_i hc; simpa using hc
      · simp
    · have := ppIds_mem h
      split
      · exact this
      · simp [this]

def xCall (X : Sums) (Γ : Gd) (hp : Hp) (f : Nat) (xs : List S) : M Res := do
  let s ← lift (X f)
  let t ← lift (takeArgs Γ hp s.args xs)
  let hp0 ← lift (junkAll hp t.2.2)
  if apartS t.2.2 && s.sl.isNone && ((ptrShapes s.args).all fun l => !l.isEmpty) then do
    let ls := ptrShapes s.args
    let pb := if s.pre then 1 else 0
    let n ← callM s f t.1 t.2.1 (resI s.res + sumI ls) (pb + (resB s.res + sumB ls))
    oblige (if s.pre then n.2 0 else .c true)
    let hp1 ← lift (fillAll n.1 n.2 hp0 t.2.2 ls (resI s.res) (pb + resB s.res))
    if gOk Γ hp1 (ppIds t.2.2) then
      pure { s := freshS n.1 n.2 (t.2.2.map fun p => (p.1, p.2.1)) s 0 pb, w := collectW hp1 (ppIds t.2.2) }
    else M.fail
  else M.fail

def tabBlk (p : IntKind × List Int) : Blk := { g := [], ro := true, cells := p.2.map fun n => .int p.1 (.c n) }
def xCallT (p : IntKind × List Int) (xs : List S) : M Res := if xs.isEmpty then do
    let id ← newId
    pure { s := .one false [.sli id 0 p.2.length p.2.length], w := [(id, tabBlk p)] }
  else M.fail
def xCallA (X : Sums) (Γ : Gd) (hp : Hp) (f : Nat) (xs : List S) : M Res := match (X f).bind (·.sl) with
  | some p => xCallT p xs
  | none => xCall X Γ hp f xs

theorem ppOk_of {β : Beta} : ∀ {pp : PP} {ps : List Rg}, ppR β pp ps → ppOk β (pp.map fun p => (p.1, p.2.1)) ps
  | [], [], _ => trivial
  | p :: pp, q :: ps, ⟨⟨r, hr, hq, _, _⟩, h⟩ => ⟨⟨r, hr, by rw [hq], by rw [hq]⟩, ppOk_of h⟩
theorem flatArgs_mem' {w : World} : ∀ {ss : List Sh} {vs : List Value} {is : List Int} {bs : List Bool} {ps : List Rg}, flatArgs ss vs w = some (is, bs, ps) → ((ptrShapes ss).all fun l => !l.isEmpty) = true →
    ∀ r, r ∈ ps → (r.ro = false ∧ r.sq = none) ∧ ∃ v, w.cell? ⟨r.blk, r.off, none⟩ = some v
  | [], [], is, bs, ps, h, _, r, hr => by
    simp only [flatArgs, Option.some.injEq, Prod.mk.injEq] at h
    obtain ⟨_, _, rfl⟩ := h
    cases hr
  | .val agg l :: ss, v :: vs, is, bs, ps, h, hne, r, hr => by
    unfold flatArgs at h
    split at h
    · rename_i h2
      simp only [Option.some.injEq, Prod.mk.injEq] at h
      obtain ⟨_, _, rfl⟩ := h
      exact flatArgs_mem' (ss := ss) h2 hne r hr
    · cases h
  | .ptr l :: ss, v :: vs, is, bs, ps, h, hne, r, hr => by
    simp only [ptrShapes, List.all_cons, Bool.and_eq_true, Bool.not_eq_true'] at hne
    unfold flatArgs at h
    split at h
    · rename_i b o is' bs' ps' h2
      split at h
      · rename_i i bb h1
        simp only [Option.some.injEq, Prod.mk.injEq] at h
        obtain ⟨_, _, rfl⟩ := h
        rcases List.mem_cons.1 hr with rfl | hr
        · refine ⟨⟨rfl, rfl⟩, ?_⟩
          cases hrd : readCells w b o l.length with
          | none => rw [hrd] at h1; simp at h1
          | some us =>
            obtain ⟨e1, e2⟩ := readCells_get hrd
            have hpos : 0 < us.length := by
              rw [e1]
              cases l with
              | nil => simp at hne
              | cons _ _ => simp
            exact ⟨us[0], by have := e2 0 _ (List.getElem?_eq_getElem hpos); simpa using this⟩
        · exact flatArgs_mem' (ss := ss) h2 hne.2 r hr
      · cases h
    · cases h
  | .sli ks :: ss, v :: vs, is, bs, ps, h, hne, r, hr => by
    unfold flatArgs at h
    split at h
    · rename_i l n r' is' bs' ps' h1 h2
      simp only [Option.some.injEq, Prod.mk.injEq] at h
      obtain ⟨_, _, rfl⟩ := h
      exact flatArgs_mem' (ss := ss) h2 hne r hr
    · cases h
  | .sli _ :: _, [], _, _, _, h, _, _, _ => by simp [flatArgs] at h
  | [], _ :: _, _, _, _, h, _, _, _ => by simp [flatArgs] at h
  | .val _ _ :: _, [], _, _, _, h, _, _, _ => by simp [flatArgs] at h
  | .ptr _ :: _, [], _, _, _, h, _, _, _ => by simp [flatArgs] at h
theorem mtAll_map {β : Beta} {ρ : Env} {f : Operand → S} {ev : Operand → Value} : ∀ {l : List Operand}, (∀ x, x ∈ l → (f x).mt β ρ (ev x)) → mtAll β ρ (l.map f) (l.map ev)
  | [], _ => trivial
  | x :: l, h => ⟨h x (by simp), mtAll_map fun y hy => h y (by simp [hy])⟩
theorem getD_tail (l : List Bool) (j : Nat) : l.tail.getD j false = l.getD (1 + j) false := by
  cases l with
  | nil => simp
  | cons x l => simp [Nat.add_comm 1 j]

section
variable {P : Program} {Φ : Funs} {gl : Gl} {Γ : Gd} {hp : Hp} {rv : Operand → SV} {dst : Option Tmp} {ty : TypeId} {pos : String} {after : Array Edge} {guard : Option (Nat × Bool)}

theorem callM_snd {X : Sums} (hX : AllOk P Φ gl X) {f : Nat} {s : Sum} (hs : X f = some s) (ρ : Env) (ai : List A) (ab : List B) (ni nb : Nat) : Snd Φ ρ (callM s f ai ab ni nb) (fun p =>
    (∀ j, j < ni → (p.1 j).d ρ = (Φ f (ai.map (A.d ρ)) (ab.map (B.d ρ))).1.getD j 0) ∧ (∀ j, j < nb → (p.2 j).d ρ = (Φ f (ai.map (A.d ρ)) (ab.map (B.d ρ))).2.getD j false)) := by
  unfold callM
  split
  · rename_i S hS
    have h := ((hX f s hs).2.2 S hS).2
    exact (instS_snd S ai ab).mono fun p hp => ⟨fun j _ => by rw [hp.1, h], fun j _ => by rw [hp.2, h]⟩
  · exact Snd.bind (newCall_snd f ai ab ni nb) fun n hn => Snd.pure ⟨hn.1, hn.2⟩
/-- A call with such arguments can be made, and comes to such a post. -/
def CallTo (P : Program) (gl : Gl) (hp : Hp) (f : Nat) (xs : List S) (ρ : Env) (Post : Nat → List Rg → Beta → World → Value → World → Prop) : Prop :=
  ∀ (N : Nat) (R : List Rg) (β : Beta) (w : World) (vs : List Value), mtAll β ρ xs vs → heapMt β ρ hp w → BetaOk N R β w → N ≤ w.heap.size → GB gl β w →
    (∀ args w, (callFunc f args).run P w = .ok (.enter f args) w) ∧ Calls P f vs.toArray w fun e w' => ∃ v, e = .returned v ∧ Post N R β w v w'
theorem call_snd {X : Sums} (hX : AllOk P Φ gl X) (f : Nat) (xs : List S) (ρ : Env) (hΓ : Gd.d ρ Γ = true) : Snd Φ ρ (xCall X Γ hp f xs) (fun res => CallTo P gl hp f xs ρ (fun N R β w v w' => ∀ lo hi, RPost N R ρ β w lo hi res v w')) := by
  unfold xCall
  refine Snd.bind (lift_snd _) fun s hs => Snd.bind (lift_snd _) fun t ht => Snd.bind (lift_snd _) fun hp0 hj => ?_
  obtain ⟨ai, ab, pp⟩ := t
  simp only at ht hj ⊢
  split
  · rename_i hap
    simp only [Bool.and_eq_true, Option.isNone_iff_eq_none] at hap
    obtain ⟨⟨hap, hsl⟩, hne0⟩ := hap
    refine Snd.bind (callM_snd hX hs ρ ai ab _ _) fun n hn => Snd.bind (oblige_snd _) fun _ hpre => Snd.bind (lift_snd _) fun hp1 hf => ?_
    obtain ⟨n1, n2⟩ := n
    obtain ⟨hn1, hn2⟩ := hn
    simp only at hn1 hn2 hpre hf ⊢
    split
    · rename_i hgo
      refine Snd.pure fun N R β w vs hm hh hb hN hG => ?_
      obtain ⟨ps, hfl, hppr, hfz, hsli⟩ := takeArgs_flat hΓ hh hb.sq ht hm
      have hapl := apartL_of hb hppr hap
      obtain ⟨hcon, hcall, _⟩ := hX f s hs
      rw [hsl] at hcon
      have hlens := flatArgs_lens hfl
      have hc := hcon _ w _ _ ps hG.1 hfl hapl hfz (fun q hq g vs hgv => by
        obtain ⟨p', r', hp', hβ, rfl, hle, hro⟩ := ppR_mem hppr q hq
        have hβg := hG.2 g vs hgv
        have hne : p'.1 ≠ g := fun e => by
          rw [e, hβg] at hβ
          simp only [Option.some.injEq] at hβ
          rw [← hβ] at hro
          cases hro
        have := (hb.apart _ _ _ _ hne hβ hβg).resolve_left fun hh => by rw [hh.1] at hro; cases hro
        unfold Rg.apart at *
        simp only at *
        omega) (fun q hq r hr => by
        obtain ⟨p', r', hp', hβ, rfl, hle, hro⟩ := ppR_mem hppr q hq
        obtain ⟨i, r0, hi, hi0, e1, e2, e3⟩ := hsli r hr
        have hne : p'.1 ≠ i := fun e => by
          rw [e, hi] at hβ
          simp only [Option.some.injEq] at hβ
          rw [← hβ, hi0] at hro
          cases hro
        have := (hb.apart _ _ _ _ hne hβ hi).resolve_left fun hh => by rw [hh.1] at hro; cases hro
        unfold Rg.apart at *
        simp only at *
        omega) (fun hp => by
        have h0 := hn2 0 (by rw [if_pos hp]; omega)
        rw [hp] at hpre
        simp only [if_true] at hpre h0
        rw [h0] at hpre
        rw [← hpre]
        cases (Φ f (ai.map (A.d ρ)) (ab.map (B.d ρ))).2 <;> simp)
      refine ⟨hcall, ?_⟩
      · refine Calls.mono hc fun e w' he => ?_
        obtain ⟨v, rfl, hkeep, r, p, hr, hp2, ho1, ho2⟩ := he
        refine ⟨v, rfl, fun lo hi => ?_⟩
        have hplen := flatPs_len hp2
        -- the answers' numbers
        have hfr := freshS_mt (FI := n1) (FB := n2) (ρ := ρ) (i := 0) (b := if s.pre then 1 else 0) (ppOk_of hppr) hr
        have hrl : r.1.length = resI s.res ∧ r.2.length = resB s.res := by
          unfold flatRes at hr
          split at hr
          · split at hr
            · rename_i vs
              have : ∀ {l : List (Bool × List CK)} {vs : List Value} {f : Fl}, flatTup ps l vs = some f → f.1.length = resI l ∧ f.2.length = resB l := by
                intro l
                induction l with
                | nil => intro vs f h; cases vs <;> simp [flatTup] at h; subst h; exact ⟨rfl, rfl⟩
                | cons q l ih =>
                  intro vs f h
                  cases vs with
                  | nil => simp [flatTup] at h
                  | cons v vs =>
                    unfold flatTup at h
                    split at h
                    · rename_i i1 b1 is bs h1 h2
                      simp only [Option.some.injEq] at h
                      subst h
                      obtain ⟨us, hf1, _⟩ := flat1_inv h1
                      have e1 := flatC_len hf1
                      have e2 := ih h2
                      simp only [resI, resB, List.length_append] at e1 e2 ⊢
                      omega
                    · cases h
              exact this hr
            · cases hr
          · split at hr
            · rename_i q hq
              obtain ⟨us, hf1, _⟩ := flat1_inv hr
              have e1 := flatC_len hf1
              rw [hq]
              simp only [resI, resB]
              omega
            · cases hr
        have k1 : ∀ j, j < resI s.res → (n1 (0 + j)).d ρ = r.1.getD j 0 := fun j hj => by
          rw [Nat.zero_add, hn1 j (by omega), ho1, getD_append_left _ _ _ _ (by omega)]
        have k2 : ∀ j, j < resB s.res → (n2 ((if s.pre then 1 else 0) + j)).d ρ = r.2.getD j false := fun j hj => by
          rw [hn2 _ (by omega)]
          split at ho2
          · rename_i hp
            rw [if_pos hp, ← getD_tail, ho2, getD_append_left _ _ _ _ (by omega)]
          · rename_i hp
            rw [if_neg hp, Nat.zero_add, ho2, getD_append_left _ _ _ _ (by omega)]
        have k3 : ∀ j, j < sumI (ptrShapes s.args) → (n1 (resI s.res + j)).d ρ = p.1.getD j 0 := fun j hj => by
          rw [hn1 _ (by omega), ho1, ← hrl.1, getD_append_right]
        have k4 : ∀ j, j < sumB (ptrShapes s.args) → (n2 ((if s.pre then 1 else 0) + resB s.res + j)).d ρ = p.2.getD j false := fun j hj => by
          rw [Nat.add_assoc, hn2 _ (by omega)]
          split at ho2
          · rename_i hp
            rw [if_pos hp, ← getD_tail, ho2, ← hrl.2, getD_append_right]
          · rename_i hp
            rw [if_neg hp, Nat.zero_add, ho2, ← hrl.2, getD_append_right]
        have hh0 := junkAll_heap hj hh
        have hjk := junkAll_junk (done := []) hj (fun p hp => by cases hp)
        simp only [List.nil_append] at hjk
        have hh1 := junk_move hb hh0 hjk hppr hkeep (flatPs_cells hp2 hlens)
        have hh2 := fillAll_heap hf hppr hp2 k3 k4 hh1
        have hKW : Keep ((ppIds pp).filterMap β) w w' := by
          refine (Keep.refl _ w).trans hkeep fun q hq => ?_
          obtain ⟨p', r', hp', hβ, rfl, hle, _⟩ := ppR_mem hppr q hq
          exact .inr ⟨r', List.mem_filterMap.2 ⟨p'.1, ppIds_mem hp', hβ⟩, rfl, by simp, by simp only; omega⟩
        have hWW : ∀ q, q ∈ (ppIds pp).filterMap β → ∃ id, id ∈ (collectW hp1 (ppIds pp)).map (·.1) ∧ β id = some q ∧ q.ro = false ∧ ∃ j v, w.cell? ⟨q.blk, j, none⟩ = some v := by
          intro q hq
          rw [List.mem_filterMap] at hq
          obtain ⟨id, hid, hβ⟩ := hq
          have hsome : (hp1 id).isSome = true := by
            have := (List.all_eq_true.1 hgo) _ hid
            cases hx : hp1 id with
            | none => rw [hx] at this; cases this
            | some b => rfl
          refine ⟨id, collectW_ids hid hsome, hβ, ?_⟩
          have hlv := flatArgs_mem' hfl hne0
          have hmem : ∃ p, p ∈ pp ∧ p.1 = id := by
            clear hKW hgo hf hjk hj hap ht hppr hfr hh0 hh1 hh2
            induction pp with
            | nil => simp [ppIds] at hid
            | cons p pp ih =>
              unfold ppIds at hid
              split at hid
              · obtain ⟨q, hq, he⟩ := ih hid; exact ⟨q, by simp [hq], he⟩
              · rcases List.mem_cons.1 hid with rfl | hid
                · exact ⟨p, by simp, rfl⟩
                · obtain ⟨q, hq, he⟩ := ih hid; exact ⟨q, by simp [hq], he⟩
          obtain ⟨p', hp', rfl⟩ := hmem
          have : ∀ {pp : PP} {ps : List Rg}, ppR β pp ps → (∀ r, r ∈ ps → (r.ro = false ∧ r.sq = none) ∧ ∃ v, w.cell? ⟨r.blk, r.off, none⟩ = some v) → ∀ p, p ∈ pp → ∃ r, β p.1 = some r ∧ r.ro = false ∧ ∃ j v, w.cell? ⟨r.blk, j, none⟩ = some v := by
            intro pp
            induction pp with
            | nil => intro ps _ _ p hp; cases hp
            | cons p0 pp ih =>
              intro ps h hl p hp
              cases ps with
              | nil => exact h.elim
              | cons q0 ps =>
                obtain ⟨⟨r, hr, hq0, _, hro⟩, h2⟩ := h
                rcases List.mem_cons.1 hp with rfl | hp
                · obtain ⟨_, v, hv⟩ := hl q0 (by simp)
                  rw [hq0] at hv
                  exact ⟨r, hr, hro, _, v, hv⟩
                · exact ih h2 (fun r hr => hl r (by simp [hr])) p hp
          obtain ⟨r', hr', hro⟩ := this hppr hlv p' hp'
          rw [hβ] at hr'
          cases hr'
          exact hro
        refine ⟨β, ⟨Ext.refl β, hb.keep (fun q hq => by obtain ⟨id, _, h1, h2, _⟩ := hWW q hq; exact ⟨id, h1, h2⟩) hKW, ⟨_, hWW, hKW⟩, fun _ _ => rfl⟩, (hfr k1 k2).1, fun q hq => ?_⟩
        · obtain ⟨h1, h2⟩ := collectW_mem hq
          have := (List.all_eq_true.1 hgo) _ h1
          rw [h2] at this
          exact hh2 _ _ h2 (Gd.sub_d this hΓ)
    · exact Snd.fail
  · exact Snd.fail

/-! ### All together -/
theorem ok_callT {X : Sums} (hX : AllOk P Φ gl X) (f : Nat) {s : Sum} {p : IntKind × List Int} (hs : X f = some s) (hsl : s.sl = some p) (xs : List S) {ρ : Env} {c c' : Ctr} {res : Res} {out : List Em} (he : xCallT p xs c = some (res, c', out)) {N : Nat} {R : List Rg} {β : Beta} {w : World} {vs : List Value}
    (hm : mtAll β ρ xs vs) (hb : BetaOk N R β w) (hG : GB gl β w) (hf : ∀ i, c.id ≤ i → i < c'.id → β i = none) :
    (∀ args w, (callFunc f args).run P w = .ok (.enter f args) w) ∧ Calls P f vs.toArray w fun e w' => ∃ v, e = .returned v ∧ RPost N R ρ β w c.id c'.id res v w' := by
  unfold xCallT at he
  split at he
  · rename_i hem
    simp only [newId, Bind.bind, M.bind, Pure.pure, M.pure, Option.some.injEq, Prod.mk.injEq] at he
    obtain ⟨rfl, rfl, rfl⟩ := he
    obtain ⟨hcon, hcall, _⟩ := hX f s hs
    rw [hsl] at hcon
    have hcon := hcon w hG.1
    have hargs : vs = [] := by
      simp only [List.isEmpty_iff] at hem
      subst hem
      cases vs with
      | nil => rfl
      | cons _ _ => exact hm.elim
    subst hargs
    refine ⟨hcall, ?_⟩
    · refine Calls.mono hcon fun e w' he => ?_
      obtain ⟨b, o, rfl, hkeep, hb1, hb2, hcells⟩ := he
      have hfree := hf c.id (Nat.le_refl _) (by simp)
      have hext := Beta.set_ext (r := { blk := b, off := o, len := p.2.length, ro := true }) hfree
      refine ⟨_, rfl, β.set c.id { blk := b, off := o, len := p.2.length, ro := true }, ⟨hext, ⟨fun i j r q hij hi hj => ?_, fun i r hi => ?_, fun i r hi => ?_, fun i r ks l hi hs => ?_⟩, ⟨[], by simp, hkeep⟩, fun i hi => ?_⟩, ⟨_, rfl, _, Beta.set_same _ _ _, by simp⟩, fun q hq => ?_⟩
      · unfold Beta.set at hi hj
        split at hi
        · rename_i e1
          split at hj
          · rename_i e2; omega
          · simp only [Option.some.injEq] at hi
            subst hi
            have := hb.place j q hj
            right; left
            simp only
            omega
        · split at hj
          · simp only [Option.some.injEq] at hj
            subst hj
            have := hb.place i r hi
            right; left
            simp only
            omega
          · exact hb.apart i j r q hij hi hj
      · unfold Beta.set at hi
        split at hi
        · simp only [Option.some.injEq] at hi
          subst hi
          exact hb2
        · have := hb.place i r hi
          have := hkeep.size
          omega
      · unfold Beta.set at hi
        split at hi
        · simp only [Option.some.injEq] at hi
          subst hi
          exact .inl rfl
        · exact hb.may i r hi
      · unfold Beta.set at hi
        split at hi
        · simp only [Option.some.injEq] at hi
          subst hi
          cases hs
        · exact (hb.keep (W := []) (fun q hq => by cases hq) hkeep).sq i r ks l hi hs
      · unfold Beta.set; rw [if_neg (by simp only at hi; omega)]
      · simp only [List.mem_singleton] at hq
        subst hq
        refine ⟨_, Beta.set_same _ _ _, by simp [tabBlk], rfl, ?_, fun h => by cases h⟩
        rw [cellsAt_iff]
        intro j cc hj
        simp only [tabBlk, List.getElem?_map] at hj
        cases hv : p.2[j]? with
        | none => rw [hv] at hj; simp at hj
        | some v =>
          rw [hv] at hj
          simp only [Option.map_some, Option.some.injEq] at hj
          subst hj
          obtain ⟨h1, h2⟩ := hcells j v hv
          exact ⟨_, h1, rfl, h2⟩
  · simp [M.fail] at he
/-- What calls functions: of a function, conditions, blocks and arguments it tells what comes of it. -/
abbrev Hnd := Nat → Gd → Hp → List S → M Res
def HOk (P : Program) (Φ : Funs) (gl : Gl) (H : Hnd) : Prop :=
  ∀ (f : Nat) (Γ : Gd) (hp : Hp) (xs : List S) (ρ : Env) (c : Ctr) (res : Res) (c' : Ctr) (out : List Em), H f Γ hp xs c = some (res, c', out) → Good Φ ρ out → Gd.d ρ Γ = true →
    ∀ (N : Nat) (R : List Rg) (β : Beta) (w : World) (vs : List Value), mtAll β ρ xs vs → heapMt β ρ hp w → BetaOk N R β w → N ≤ w.heap.size → GB gl β w → (∀ i, c.id ≤ i → i < c'.id → β i = none) →
    (∀ args w, (callFunc f args).run P w = .ok (.enter f args) w) ∧ Calls P f vs.toArray w fun e w' => ∃ v, e = .returned v ∧ RPost N R ρ β w c.id c'.id res v w'
/-- By contract. -/
def hnd0 (X : Sums) : Hnd := fun f Γ hp xs => xCallA X Γ hp f xs
theorem hnd0_ok {X : Sums} (hX : AllOk P Φ gl X) : HOk P Φ gl (hnd0 X) := by
  intro f Γ hp xs ρ c res c' out he hg hΓ N R β w vs hm hh hb hN hG hf
  unfold hnd0 xCallA at he
  have hnone : (∀ p, (X f).bind (·.sl) = some p → False) → (match (X f).bind (·.sl) with | some p => xCallT p xs | none => xCall X Γ hp f xs) = xCall X Γ hp f xs := fun h => by
    cases hh : (X f).bind (·.sl) with
    | none => rfl
    | some p => exact (h p hh).elim
  by_cases hc : ∃ p, (X f).bind (·.sl) = some p
  · obtain ⟨p, hp⟩ := hc
    rw [hp] at he
    cases hs : X f with
    | none => rw [hs] at hp; cases hp
    | some s =>
      rw [hs] at hp
      exact ok_callT hX f hs hp xs he hm hb hG hf
  · rw [hnone fun p hp => hc ⟨p, hp⟩] at he
    obtain ⟨h1, h2⟩ := call_snd hX f xs ρ hΓ c res c' out he hg N R β w vs hm hh hb hN hG
    exact ⟨h1, Calls.mono h2 fun e w' ⟨v, hv, hp⟩ => ⟨v, hv, hp _ _⟩⟩

end
end Go.Proofs.YtalnndmnnffnmaaGreat.Sx
