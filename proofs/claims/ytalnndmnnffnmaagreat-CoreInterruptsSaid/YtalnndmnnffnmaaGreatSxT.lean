/-
  SX, part T: what a summary answers, as equations. No condition.
-/
import Derived.Test.YtalnndmnnffnmaaGreatSxQ
import Derived.KernelRfl
set_option linter.unusedVariables false
set_option linter.unusedSimpArgs false
namespace Go.Proofs.YtalnndmnnffnmaaGreat.Sx
open Go

/-- What is emitted, as equations; what is owed is left out. -/
def Em.eqn (Φ : Funs) (ρ : Env) : Em → Prop
  | .di n r => ρ.i n = r.d ρ
  | .db n r => ρ.b n = r.d ρ
  | .call f ai ab i0 ni b0 nb =>
    (∀ j, j < ni → ρ.i (i0 + j) = (Φ f (ai.map (A.d ρ)) (ab.map (B.d ρ))).1.getD j 0) ∧
    (∀ j, j < nb → ρ.b (b0 + j) = (Φ f (ai.map (A.d ρ)) (ab.map (B.d ρ))).2.getD j false)
  | .ob _ _ => True
def eqns (Φ : Funs) (ρ : Env) : List Em → Prop
  | [] => True
  | e :: l => e.eqn Φ ρ ∧ eqns Φ ρ l
theorem eqns_of {Φ : Funs} {ρ : Env} : ∀ {l : List Em}, (∀ e, e ∈ l → match e with | .ob _ _ => True | e => e.ok Φ ρ) → eqns Φ ρ l
  | [], _ => trivial
  | e :: l, h => by
    refine ⟨?_, eqns_of fun e he => h e (by simp [he])⟩
    have := h e (by simp)
    cases e with
    | di n r => exact this
    | db n r => exact this
    | call f ai ab i0 ni b0 nb => exact this
    | ob g b => trivial
/-- The numbers and bools that a list holds, one by one. -/
def headsI (ρ : Env) : List Int → Nat → Prop
  | [], _ => True
  | x :: l, n => ρ.i n = x ∧ headsI ρ l (n + 1)
def headsB (ρ : Env) : List Bool → Nat → Prop
  | [], _ => True
  | x :: l, n => ρ.b n = x ∧ headsB ρ l (n + 1)
theorem headsI_of {ρ : Env} : ∀ {l : List Int} {k : Nat}, (∀ n, n < l.length → ρ.i (k + n) = l.getD n 0) → headsI ρ l k
  | [], _, _ => trivial
  | x :: l, k, h => ⟨by simpa using h 0 (by simp), headsI_of fun n hn => by have := h (n + 1) (by simpa using hn); rw [show k + 1 + n = k + (n + 1) by omega, this]; simp⟩
theorem headsB_of {ρ : Env} : ∀ {l : List Bool} {k : Nat}, (∀ n, n < l.length → ρ.b (k + n) = l.getD n false) → headsB ρ l k
  | [], _, _ => trivial
  | x :: l, k, h => ⟨by simpa using h 0 (by simp), headsB_of fun n hn => by have := h (n + 1) (by simpa using hn); rw [show k + 1 + n = k + (n + 1) by omega, this]; simp⟩
theorem Smry.run_spec {Φ : Funs} {S : Smry} {is : List Int} {bs : List Bool} (hw : wsEm S.em is.length bs.length = true) : ∃ ρ : Env, S.run Φ false is bs = (S.ri.map (A.d ρ), S.rb.map (B.d ρ)) ∧ headsI ρ is 0 ∧ headsB ρ bs 0 ∧ eqns Φ ρ S.em := by
  obtain ⟨h1, h2⟩ := evEm_spec Φ S.em is bs hw
  refine ⟨envOf (evEm Φ S.em is bs).1 (evEm Φ S.em is bs).2, rfl, headsI_of fun n hn => ?_, headsB_of fun n hn => ?_, eqns_of fun e he => ?_⟩
  · rw [Nat.zero_add]; exact h1.1 n hn
  · rw [Nat.zero_add]; exact h1.2 n hn
  · have := h2 e he
    cases e <;> simp_all

/-! ### Arithmetic of kinds, as remainders -/
theorem wrap_u8 (n : Int) : IntKind.wrap .u8 n = n % 256 := by simp [IntKind.wrap, IntKind.signed, IntKind.bits]
theorem wrap_u16 (n : Int) : IntKind.wrap .u16 n = n % 65536 := by simp [IntKind.wrap, IntKind.signed, IntKind.bits]
theorem wrap_i64 (n : Int) : IntKind.wrap .i64 n = if n % 18446744073709551616 ≥ 9223372036854775808 then n % 18446744073709551616 - 18446744073709551616 else n % 18446744073709551616 := by simp [IntKind.wrap, IntKind.signed, IntKind.bits]
def allR (f : Nat → Bool) : Nat → Nat → Bool
  | 0, lo => f lo
  | k + 1, lo => allR f k lo && allR f k (lo + 2 ^ k)
theorem allR_spec {f : Nat → Bool} : ∀ {k lo : Nat}, allR f k lo = true → ∀ n, lo ≤ n → n < lo + 2 ^ k → f n = true
  | 0, lo, h, n, h1, h2 => by
    have : n = lo := by simp at h2; omega
    rw [this]; exact h
  | k + 1, lo, h, n, h1, h2 => by
    simp only [allR, Bool.and_eq_true] at h
    rw [Nat.pow_succ] at h2
    by_cases hn : n < lo + 2 ^ k
    · exact allR_spec h.1 n h1 hn
    · exact allR_spec h.2 n (by omega) (by omega)
theorem u8_all {p : Int → Bool} (h : allR (fun n => p n) 8 0 = true) (x : Int) : p (x % 256) = true := by
  have h1 : 0 ≤ x % 256 := Int.emod_nonneg _ (by decide)
  have h2 : x % 256 < 256 := Int.emod_lt_of_pos _ (by decide)
  have := allR_spec h (x % 256).toNat (Nat.zero_le _) (by omega)
  rwa [Int.toNat_of_nonneg h1] at this
theorem ofInt8 (x : Int) : BitVec.ofInt 8 (x % 256) = BitVec.ofInt 8 x := by
  apply BitVec.eq_of_toNat_eq; simp
theorem ofInt16 (x : Int) : BitVec.ofInt 16 (x % 65536) = BitVec.ofInt 16 x := by
  apply BitVec.eq_of_toNat_eq; simp
theorem and8 (x c : Int) : arI .and .u8 x c = arI .and .u8 (x % 256) c := by
  show IntKind.wrap .u8 _ = IntKind.wrap .u8 _
  show IntKind.wrap .u8 ↑(BitVec.ofInt 8 x &&& BitVec.ofInt 8 c).toNat = IntKind.wrap .u8 ↑(BitVec.ofInt 8 (x % 256) &&& BitVec.ofInt 8 c).toNat
  rw [ofInt8]
theorem and8_1 (x : Int) : arI .and .u8 x 1 = x % 256 % 2 := by
  rw [and8]; exact of_decide_eq_true (u8_all (p := fun y => decide (arI .and .u8 y 1 = y % 2)) (by kernel_rfl) x)
theorem and8_15 (x : Int) : arI .and .u8 x 15 = x % 256 % 16 := by
  rw [and8]; exact of_decide_eq_true (u8_all (p := fun y => decide (arI .and .u8 y 15 = y % 16)) (by kernel_rfl) x)
theorem and8_127 (x : Int) : arI .and .u8 x 127 = x % 256 % 128 := by
  rw [and8]; exact of_decide_eq_true (u8_all (p := fun y => decide (arI .and .u8 y 127 = y % 128)) (by kernel_rfl) x)
theorem and8_128 (x : Int) : arI .and .u8 x 128 = 128 * (x % 256 / 128) := by
  rw [and8]; exact of_decide_eq_true (u8_all (p := fun y => decide (arI .and .u8 y 128 = 128 * (y / 128))) (by kernel_rfl) x)
theorem and8_64 (x : Int) : arI .and .u8 x 64 = 64 * (x % 256 / 64 % 2) := by
  rw [and8]; exact of_decide_eq_true (u8_all (p := fun y => decide (arI .and .u8 y 64 = 64 * (y / 64 % 2))) (by kernel_rfl) x)
theorem or16 (x c : Int) : arI .or .u16 x c = arI .or .u16 (x % 65536) c := by
  show IntKind.wrap .u16 ↑(BitVec.ofInt 16 x ||| BitVec.ofInt 16 c).toNat = IntKind.wrap .u16 ↑(BitVec.ofInt 16 (x % 65536) ||| BitVec.ofInt 16 c).toNat
  rw [ofInt16]
theorem or16_top (x : Int) : arI .or .u16 x 32768 = if x % 65536 < 32768 then x % 65536 + 32768 else x % 65536 := by
  rw [or16]
  have h1 : 0 ≤ x % 65536 := Int.emod_nonneg _ (by decide)
  have h2 : x % 65536 < 65536 := Int.emod_lt_of_pos _ (by decide)
  generalize x % 65536 = y at h1 h2 ⊢
  obtain ⟨n, rfl⟩ := Int.eq_ofNat_of_zero_le h1
  have hn : n < 65536 := by omega
  show IntKind.wrap .u16 ↑(BitVec.ofInt 16 n ||| BitVec.ofInt 16 32768).toNat = _
  rw [wrap_u16, BitVec.toNat_or]
  have e1 : (BitVec.ofInt 16 (n : Int)).toNat = n := by simp; omega
  have e2 : (BitVec.ofInt 16 (32768 : Int)).toNat = 32768 := by decide
  rw [e1, e2]
  have e3 : n ||| 32768 = if n < 32768 then n + 32768 else n := by
    split
    · rename_i h
      have := Nat.two_pow_add_eq_or_of_lt (i := 15) (b := n) (by simpa using h) 1
      rw [Nat.or_comm]
      simp at this
      omega
    · rename_i h
      have := Nat.two_pow_add_eq_or_of_lt (i := 15) (b := n - 32768) (by simp; omega) 1
      simp at this
      have h3 : n = 32768 ||| (n - 32768) := by omega
      rw [h3, Nat.or_comm, ← Nat.or_assoc, Nat.or_self]
  rw [e3]
  split <;> split <;> omega
theorem shr8_1 (x : Int) : arI .shr .u8 x 1 = x / 2 := by
  show x.fdiv (2 ^ min (Int.toNat 1) 8) = x / 2
  rw [show ((2 : Int) ^ min (Int.toNat 1) 8) = 2 by decide]
  exact Int.fdiv_eq_ediv_of_nonneg x (by decide)
theorem rem_nn {k : IntKind} {x c : Int} (hx : 0 ≤ x) : arI .rem k x c = x % c := Int.tmod_eq_emod_of_nonneg hx
theorem quo8_nn {x c : Int} (hx : 0 ≤ x) : arI .quo .u8 x c = x / c % 256 := by
  show IntKind.wrap .u8 (x.tdiv c) = _
  rw [wrap_u8, Int.tdiv_eq_ediv_of_nonneg hx]
theorem add8 (x y : Int) : arI .add .u8 x y = (x + y) % 256 := wrap_u8 _
theorem sub8 (x y : Int) : arI .sub .u8 x y = (x - y) % 256 := wrap_u8 _
theorem mul8 (x y : Int) : arI .mul .u8 x y = (x * y) % 256 := wrap_u8 _
theorem add16 (x y : Int) : arI .add .u16 x y = (x + y) % 65536 := wrap_u16 _
theorem sub16 (x y : Int) : arI .sub .u16 x y = (x - y) % 65536 := wrap_u16 _
theorem mul16 (x y : Int) : arI .mul .u16 x y = (x * y) % 65536 := wrap_u16 _
theorem add64 (x y : Int) : arI .add .i64 x y = IntKind.wrap .i64 (x + y) := rfl
theorem sub64 (x y : Int) : arI .sub .i64 x y = IntKind.wrap .i64 (x - y) := rfl
theorem mul64 (x y : Int) : arI .mul .i64 x y = IntKind.wrap .i64 (x * y) := rfl
theorem rem_eq (k : IntKind) (x c : Int) : arI .rem k x c = if 0 ≤ x then x % c else -((-x) % c) := by
  show x.tmod c = _
  split
  · rename_i h; exact Int.tmod_eq_emod_of_nonneg h
  · rename_i h
    rw [show x.tmod c = -((-x).tmod c) by rw [Int.neg_tmod, Int.neg_neg], Int.tmod_eq_emod_of_nonneg (by omega)]
theorem tdiv_eq (x c : Int) : x.tdiv c = if 0 ≤ x then x / c else -((-x) / c) := by
  split
  · rename_i h; exact Int.tdiv_eq_ediv_of_nonneg h
  · rename_i h
    rw [show x.tdiv c = -((-x).tdiv c) by rw [Int.neg_tdiv, Int.neg_neg], Int.tdiv_eq_ediv_of_nonneg (by omega)]
theorem quo8_eq (x c : Int) : arI .quo .u8 x c = (if 0 ≤ x then x / c else -((-x) / c)) % 256 := by
  show IntKind.wrap .u8 (x.tdiv c) = _
  rw [wrap_u8, tdiv_eq]
theorem quo16_eq (x c : Int) : arI .quo .u16 x c = (if 0 ≤ x then x / c else -((-x) / c)) % 65536 := by
  show IntKind.wrap .u16 (x.tdiv c) = _
  rw [wrap_u16, tdiv_eq]
theorem wrap_i64_if (n : Int) : IntKind.wrap .i64 n = if -9223372036854775808 ≤ n ∧ n < 9223372036854775808 then n else IntKind.wrap .i64 n := by
  split
  · rename_i h
    rw [wrap_i64]
    split <;> omega
  · rfl
theorem wrap_i64_in {n : Int} (h1 : -9223372036854775808 ≤ n) (h2 : n < 9223372036854775808) : IntKind.wrap .i64 n = n := by
  rw [wrap_i64]
  split <;> omega
theorem lt0 {p : Nat → Prop} : (∀ j, j < 0 → p j) ↔ True := by simp
theorem lt1 {p : Nat → Prop} : (∀ j, j < 1 → p j) ↔ p 0 := by simp
end Go.Proofs.YtalnndmnnffnmaaGreat.Sx
