/-
  SX, arithmetic: masks, shifts and joined bits, as remainders and quotients. No condition.
-/
import Derived.Test.YtalnndmnnffnmaaGreatSxY
set_option linter.unusedVariables false
set_option linter.unusedSimpArgs false
namespace Go.Proofs.YtalnndmnnffnmaaGreat.Sx
open Go

theorem nat_mask (n a b : Nat) : n &&& (2 ^ a * (2 ^ b - 1)) = 2 ^ a * (n / 2 ^ a % 2 ^ b) := by
  rw [← Nat.and_two_pow_sub_one_eq_mod]
  apply Nat.eq_of_testBit_eq
  intro i
  rw [Nat.testBit_and, Nat.testBit_two_pow_mul, Nat.testBit_two_pow_mul, Nat.testBit_and, Nat.testBit_div_two_pow]
  by_cases h : a ≤ i
  · simp only [h, decide_true, Bool.true_and, Nat.sub_add_cancel h]
  · simp [h]
theorem and16_nat (x c : Int) : arI .and .u16 x c = ((x % 65536).toNat &&& (c % 65536).toNat : Nat) := by
  show IntKind.wrap .u16 ↑(BitVec.ofInt 16 x &&& BitVec.ofInt 16 c).toNat = _
  rw [wrap_u16, BitVec.toNat_and]
  have h1 : ∀ y : Int, (BitVec.ofInt 16 y).toNat = (y % 65536).toNat := fun y => by simp [BitVec.toNat_ofInt]
  rw [h1, h1]
  have : (x % 65536).toNat &&& (c % 65536).toNat ≤ (x % 65536).toNat := Nat.and_le_left
  omega
theorem or16_nat (x c : Int) : arI .or .u16 x c = ((x % 65536).toNat ||| (c % 65536).toNat : Nat) := by
  show IntKind.wrap .u16 ↑(BitVec.ofInt 16 x ||| BitVec.ofInt 16 c).toNat = _
  rw [wrap_u16, BitVec.toNat_or]
  have h1 : ∀ y : Int, (BitVec.ofInt 16 y).toNat = (y % 65536).toNat := fun y => by simp [BitVec.toNat_ofInt]
  rw [h1, h1]
  have : (x % 65536).toNat ||| (c % 65536).toNat < 2 ^ 16 := Nat.or_lt_two_pow (by omega) (by omega)
  omega
theorem xor16_nat (x c : Int) : arI .xor .u16 x c = ((x % 65536).toNat ^^^ (c % 65536).toNat : Nat) := by
  show IntKind.wrap .u16 ↑(BitVec.ofInt 16 x ^^^ BitVec.ofInt 16 c).toNat = _
  rw [wrap_u16, BitVec.toNat_xor]
  have h1 : ∀ y : Int, (BitVec.ofInt 16 y).toNat = (y % 65536).toNat := fun y => by simp [BitVec.toNat_ofInt]
  rw [h1, h1]
  have : (x % 65536).toNat ^^^ (c % 65536).toNat < 2 ^ 16 := Nat.xor_lt_two_pow (by omega) (by omega)
  omega
theorem mask16 (x : Int) (a b c : Nat) (hc : c = 2 ^ a * (2 ^ b - 1)) (hl : c < 65536) : arI .and .u16 x (c : Nat) = 2 ^ a * (x % 65536 / 2 ^ a % 2 ^ b) := by
  rw [and16_nat, show ((c : Int) % 65536).toNat = c by omega, hc, nat_mask]
  have h1 : ((x % 65536).toNat : Int) = x % 65536 := Int.toNat_of_nonneg (by omega)
  rw [Int.natCast_mul, Int.natCast_emod, Int.natCast_ediv, h1]
  simp
theorem and16_255 (x : Int) : arI .and .u16 x 255 = x % 65536 % 256 := by
  have := mask16 x 0 8 255 (by decide) (by decide)
  simpa using this
theorem and16_1792 (x : Int) : arI .and .u16 x 1792 = 256 * (x % 65536 / 256 % 8) := by
  have := mask16 x 8 3 1792 (by decide) (by decide)
  simpa using this
theorem and16_1 (x : Int) : arI .and .u16 x 1 = x % 65536 % 2 := by
  have := mask16 x 0 1 1 (by decide) (by decide)
  simpa using this
theorem and16_3 (x : Int) : arI .and .u16 x 3 = x % 65536 % 4 := by
  have := mask16 x 0 2 3 (by decide) (by decide)
  simpa using this
/-- Bits that lie apart are joined by adding. -/
theorem or16_add (u v : Int) (a : Nat) (hu : 0 ≤ u) (hv : 0 ≤ v) (hva : v < 2 ^ a) (hl : 2 ^ a * u + v < 65536) : arI .or .u16 (2 ^ a * u) v = 2 ^ a * u + v := by
  have hp : (0 : Int) ≤ 2 ^ a * u := Int.mul_nonneg (Int.le_of_lt (Int.pow_pos (by decide))) hu
  obtain ⟨m, rfl⟩ := Int.eq_ofNat_of_zero_le hu
  obtain ⟨n, rfl⟩ := Int.eq_ofNat_of_zero_le hv
  rw [or16_nat]
  have e1 : (((2 : Int) ^ a * (m : Int)) % 65536).toNat = 2 ^ a * m := by
    rw [Int.emod_eq_of_lt hp (by omega)]
    have : ((2 : Int) ^ a * (m : Int)) = ((2 ^ a * m : Nat) : Int) := by simp
    rw [this, Int.toNat_natCast]
  have e2 : ((n : Int) % 65536).toNat = n := by omega
  rw [e1, e2]
  have hn : n < 2 ^ a := by
    have : ((n : Int)) < ((2 ^ a : Nat) : Int) := by simpa using hva
    exact Int.ofNat_lt.1 this
  rw [← Nat.two_pow_add_eq_or_of_lt hn]
  simp
theorem and8_7 (x : Int) : arI .and .u8 x 7 = x % 256 % 8 := by
  rw [and8]; exact of_decide_eq_true (u8_all (p := fun y => decide (arI .and .u8 y 7 = y % 8)) (by kernel_rfl) x)
theorem and8_31 (x : Int) : arI .and .u8 x 31 = x % 256 % 32 := by
  rw [and8]; exact of_decide_eq_true (u8_all (p := fun y => decide (arI .and .u8 y 31 = y % 32)) (by kernel_rfl) x)
theorem and8_32 (x : Int) : arI .and .u8 x 32 = 32 * (x % 256 / 32 % 2) := by
  rw [and8]; exact of_decide_eq_true (u8_all (p := fun y => decide (arI .and .u8 y 32 = 32 * (y / 32 % 2))) (by kernel_rfl) x)
theorem and8_16 (x : Int) : arI .and .u8 x 16 = 16 * (x % 256 / 16 % 2) := by
  rw [and8]; exact of_decide_eq_true (u8_all (p := fun y => decide (arI .and .u8 y 16 = 16 * (y / 16 % 2))) (by kernel_rfl) x)
theorem and8_8 (x : Int) : arI .and .u8 x 8 = 8 * (x % 256 / 8 % 2) := by
  rw [and8]; exact of_decide_eq_true (u8_all (p := fun y => decide (arI .and .u8 y 8 = 8 * (y / 8 % 2))) (by kernel_rfl) x)
theorem shrC (k : IntKind) (x : Int) (c n : Nat) (hn : n = 2 ^ min c k.bits) : arI .shr k x (c : Nat) = x / (n : Nat) := by
  show x.fdiv (2 ^ min (Int.toNat (c : Nat)) k.bits) = _
  rw [Int.toNat_natCast, hn, Int.fdiv_eq_ediv_of_nonneg _ (by exact Int.le_of_lt (Int.pow_pos (by decide)))]
  simp
theorem shr8_3 (x : Int) : arI .shr .u8 x 3 = x / 8 := shrC .u8 x 3 8 (by decide)
theorem shr8_4 (x : Int) : arI .shr .u8 x 4 = x / 16 := shrC .u8 x 4 16 (by decide)
theorem shr8_6 (x : Int) : arI .shr .u8 x 6 = x / 64 := shrC .u8 x 6 64 (by decide)
theorem shr16_1 (x : Int) : arI .shr .u16 x 1 = x / 2 := shrC .u16 x 1 2 (by decide)
theorem shr16_6 (x : Int) : arI .shr .u16 x 6 = x / 64 := shrC .u16 x 6 64 (by decide)
theorem shr16_8 (x : Int) : arI .shr .u16 x 8 = x / 256 := shrC .u16 x 8 256 (by decide)
theorem shr16_10 (x : Int) : arI .shr .u16 x 10 = x / 1024 := shrC .u16 x 10 1024 (by decide)
theorem shl16_8 (x : Int) : arI .shl .u16 x 8 = x * 256 % 65536 := by
  show IntKind.wrap .u16 (x * 2 ^ min (Int.toNat 8) 16) = _
  rw [wrap_u16, show ((2 : Int) ^ min (Int.toNat 8) 16) = 256 by decide]
theorem shl16_14 (x : Int) : arI .shl .u16 x 14 = x * 16384 % 65536 := by
  show IntKind.wrap .u16 (x * 2 ^ min (Int.toNat 14) 16) = _
  rw [wrap_u16, show ((2 : Int) ^ min (Int.toNat 14) 16) = 16384 by decide]
end Go.Proofs.YtalnndmnnffnmaaGreat.Sx
