/-
  How long the bits of noise take to come again: 32767 shifts; short ones 31, or 93. No program here. No condition.
-/
import Derived.Test.YtoempcgniokpiaaDoorSxT
set_option linter.unusedVariables false
namespace Go.Proofs.YtoempcgniokpiaaDoor.Td
open Go Go.Proofs.YtoempcgniokpiaaDoor.Sx

def nxN (s : Bool) (b : Nat) : Nat := match s with | true => b / 2 + 16384 * ((b + b / 64) % 2) | false => b / 2 + 16384 * ((b + b / 2) % 2)
def nx3 (b : Nat) : Nat := b / 8 + 4096 * ((b ^^^ (b / 64)) % 8)
def nx9 (b : Nat) : Nat := b / 512 + 64 * ((b ^^^ (b / 64)) % 512)
/-- 2^k steps, each number made before the next step -/
def rep (f : Nat → Nat) : Nat → Nat → Nat
  | 0, b => f b
  | k + 1, b => match rep f k b with
    | 0 => 0
    | m + 1 => rep f k (m + 1)
def it (s : Bool) : Nat → Nat → Nat
  | 0, b => b
  | k + 1, b => it s k (nxN s b)
theorem it_add (s : Bool) : ∀ j k b, it s (j + k) b = it s k (it s j b)
  | 0, k, b => by rw [Nat.zero_add]; rfl
  | j + 1, k, b => by rw [Nat.succ_add]; exact it_add s j k (nxN s b)
theorem nxN_in (s : Bool) (b : Nat) (h : 1 ≤ b ∧ b < 32768) : 1 ≤ nxN s b ∧ nxN s b < 32768 := by
  unfold nxN
  rcases (show b = 1 ∨ 2 ≤ b by omega) with rfl | h2
  · cases s <;> decide
  · cases s <;> simp <;> omega
theorem it_in (s : Bool) : ∀ k b, 1 ≤ b ∧ b < 32768 → 1 ≤ it s k b ∧ it s k b < 32768
  | 0, b, h => h
  | k + 1, b, h => it_in s k _ (nxN_in s b h)
theorem nxN_inj (s : Bool) (a b : Nat) (ha : a < 32768) (hb : b < 32768) (h : nxN s a = nxN s b) : a = b := by
  have key : ∀ x y u v : Nat, x < 16384 → y < 16384 → u < 2 → v < 2 → x + 16384 * u = y + 16384 * v → x = y ∧ u = v := fun x y u v _ _ _ _ _ => by omega
  unfold nxN at h
  cases s
  · simp only at h
    obtain ⟨h1, h2⟩ := key _ _ _ _ (by omega) (by omega) (Nat.mod_lt _ (by decide)) (Nat.mod_lt _ (by decide)) h
    clear key h
    omega
  · simp only at h
    obtain ⟨h1, h2⟩ := key _ _ _ _ (by omega) (by omega) (Nat.mod_lt _ (by decide)) (Nat.mod_lt _ (by decide)) h
    have e1 : a / 64 = a / 2 / 32 := by omega
    have e2 : b / 64 = b / 2 / 32 := by omega
    have e3 : a / 64 = b / 64 := by rw [e1, e2, h1]
    rw [e3] at h2
    clear key h e1 e2 e3
    generalize b / 64 = z at h2
    omega
theorem it_inj (s : Bool) : ∀ k a b, 1 ≤ a ∧ a < 32768 → 1 ≤ b ∧ b < 32768 → it s k a = it s k b → a = b
  | 0, a, b, _, _, h => h
  | k + 1, a, b, ha, hb, h => nxN_inj s a b ha.2 hb.2 (it_inj s k _ _ (nxN_in s a ha) (nxN_in s b hb) h)
theorem rep_it (s : Bool) : ∀ k b, 1 ≤ b ∧ b < 32768 → rep (nxN s) k b = it s (2 ^ k) b
  | 0, b, _ => rfl
  | k + 1, b, h => by
    have h1 := rep_it s k b h
    have h2 := it_in s (2 ^ k) b h
    unfold rep
    rw [h1]
    have e : 2 ^ (k + 1) = 2 ^ k + 2 ^ k := by rw [Nat.pow_succ]; omega
    rw [e, it_add]
    cases hx : it s (2 ^ k) b with
    | zero => omega
    | succ m =>
      simp only
      rw [hx] at h2
      exact rep_it s k (m + 1) h2
/-- The first return divides every other one. -/
theorem ret_dvd (s : Bool) (n L : Nat) (hL : 1 ≤ L) (h : it s L n = n) (hm : ∀ j, 1 ≤ j → j < L → it s j n ≠ n) (k : Nat) (hk : it s k n = n) : k % L = 0 := by
  have hq : ∀ q, it s (L * q) n = n := by
    intro q
    induction q with
    | zero => rfl
    | succ q ih => rw [Nat.mul_succ, it_add, ih, h]
  have e : it s (k % L) n = n := by
    have : it s (L * (k / L) + k % L) n = it s (k % L) n := by rw [it_add, hq]
    rw [Nat.div_add_mod] at this
    rw [← this, hk]
  rcases Nat.eq_zero_or_pos (k % L) with h0 | h0
  · exact h0
  · exact absurd e (hm _ h0 (Nat.mod_lt _ hL))
theorem first_ret (s : Bool) (n : Nat) : ∀ K, 1 ≤ K → it s K n = n → ∃ L, 1 ≤ L ∧ L ≤ K ∧ it s L n = n ∧ ∀ j, 1 ≤ j → j < L → it s j n ≠ n := by
  intro K
  induction K using Nat.strongRecOn with
  | _ K ih =>
    intro h1 h
    by_cases hx : ∃ j, 1 ≤ j ∧ j < K ∧ it s j n = n
    · obtain ⟨j, a, b, c⟩ := hx
      obtain ⟨L, l1, l2, l3⟩ := ih j b a c
      exact ⟨L, l1, by omega, l3⟩
    · exact ⟨K, h1, Nat.le_refl _, h, fun j a b c => hx ⟨j, a, b, c⟩⟩

/-! ### Short ones -/
def chk (n : Nat) : Bool := n == 0 || (nxN true n != n && nx3 n != n && nxN true (nxN true (nxN true n)) == nx3 n && nx3 (nx3 (nx3 n)) == nx9 n && rep nx9 3 (rep nx9 1 (nx3 n)) == n)
set_option maxRecDepth 100000 in
theorem chk_all : allR chk 15 0 = true := by kernel_rfl
theorem chk_at (n : Nat) (h : 1 ≤ n ∧ n < 32768) : nxN true n ≠ n ∧ nx3 n ≠ n ∧ it true 3 n = nx3 n ∧ nx3 (nx3 (nx3 n)) = nx9 n ∧ rep nx9 3 (rep nx9 1 (nx3 n)) = n := by
  have := allR_spec chk_all n (Nat.zero_le _) (by simpa using h.2)
  unfold chk at this
  have hn : (n == 0) = false := by simp; omega
  rw [hn] at this
  simp only [Bool.false_or, Bool.and_eq_true, bne_iff_ne, ne_eq, beq_iff_eq] at this
  exact ⟨this.1.1.1.1, this.1.1.1.2, this.1.1.2, this.1.2, this.2⟩
theorem it9 (n : Nat) (h : 1 ≤ n ∧ n < 32768) : it true 9 n = nx9 n := by
  have h3 := it_in true 3 n h
  have h6 := it_in true 3 _ h3
  have a := (chk_at n h).2.2.1
  have b := (chk_at _ h3).2.2.1
  have c := (chk_at _ h6).2.2.1
  rw [show (9 : Nat) = 3 + (3 + 3) from rfl, it_add, it_add, c, b, a]
  exact (chk_at n h).2.2.2.1
theorem rep9 : ∀ k b, 1 ≤ b ∧ b < 32768 → rep nx9 k b = it true (9 * 2 ^ k) b
  | 0, b, h => (it9 b h).symm
  | k + 1, b, h => by
    have h1 := rep9 k b h
    have h2 := it_in true (9 * 2 ^ k) b h
    unfold rep
    rw [h1]
    have e : 9 * 2 ^ (k + 1) = 9 * 2 ^ k + 9 * 2 ^ k := by rw [Nat.pow_succ]; omega
    rw [e, it_add]
    cases hx : it true (9 * 2 ^ k) b with
    | zero => omega
    | succ m =>
      simp only
      rw [hx] at h2
      exact rep9 k (m + 1) h2
theorem short93 (n : Nat) (h : 1 ≤ n ∧ n < 32768) : it true 93 n = n := by
  have h3 := it_in true 3 n h
  have h21 := it_in true (9 * 2 ^ 1) _ h3
  have c := (chk_at n h).2.2.2.2
  have a := (chk_at n h).2.2.1
  rw [← a, rep9 1 _ h3, rep9 3 _ h21, ← it_add, ← it_add] at c
  exact c
theorem short_ret (n : Nat) (h : 1 ≤ n ∧ n < 32768) : ∃ L, (L = 31 ∨ L = 93) ∧ it true L n = n ∧ ∀ j, 1 ≤ j → j < L → it true j n ≠ n := by
  obtain ⟨L, l1, l2, l3, l4⟩ := first_ret true n 93 (by decide) (short93 n h)
  have hd := ret_dvd true n L l1 l3 l4 93 (short93 n h)
  have k := chk_at n h
  have hL : L = 1 ∨ L = 3 ∨ L = 31 ∨ L = 93 := by
    have : ∀ m, m < 94 → 1 ≤ m → 93 % m = 0 → (m = 1 ∨ m = 3 ∨ m = 31 ∨ m = 93) := by decide
    exact this L (by omega) l1 hd
  refine ⟨L, ?_, l3, l4⟩
  rcases hL with rfl | rfl | rfl | rfl
  · exact absurd l3 k.1
  · rw [k.2.2.1] at l3; exact absurd l3 k.2.1
  · exact .inl rfl
  · exact .inr rfl

/-! ### Long ones -/
/-- a state, and which ones were met: met * 32768 + state -/
def mk (v : Nat) : Nat := ((v / 32768) ||| (1 <<< nxN false (v % 32768))) * 32768 + nxN false (v % 32768)
set_option maxRecDepth 100000 in
theorem mk_all : rep mk 15 (2 * 32768 + 1) / 32768 = 2 ^ 32768 - 2 := by kernel_rfl
set_option maxRecDepth 100000 in
theorem long_one : rep (nxN false) 15 1 = nxN false 1 := by kernel_rfl
theorem mk_div (v : Nat) : mk v / 32768 = (v / 32768) ||| (1 <<< nxN false (v % 32768)) := by
  unfold mk
  have : nxN false (v % 32768) < 32768 := by
    rcases Nat.eq_zero_or_pos (v % 32768) with h | h
    · rw [h]; decide
    · exact (nxN_in false _ ⟨h, Nat.mod_lt _ (by decide)⟩).2
  omega
theorem mk_mod (v : Nat) : mk v % 32768 = nxN false (v % 32768) := by
  unfold mk
  have : nxN false (v % 32768) < 32768 := by
    rcases Nat.eq_zero_or_pos (v % 32768) with h | h
    · rw [h]; decide
    · exact (nxN_in false _ ⟨h, Nat.mod_lt _ (by decide)⟩).2
  omega
def itM : Nat → Nat → Nat
  | 0, v => v
  | k + 1, v => itM k (mk v)
theorem itM_add : ∀ j k b, itM (j + k) b = itM k (itM j b)
  | 0, k, b => by rw [Nat.zero_add]; rfl
  | j + 1, k, b => by rw [Nat.succ_add]; exact itM_add j k (mk b)
theorem mk_pos (v : Nat) (h : 1 ≤ v % 32768) : 1 ≤ mk v % 32768 := by
  rw [mk_mod]; exact (nxN_in false _ ⟨h, Nat.mod_lt _ (by decide)⟩).1
theorem itM_pos : ∀ k v, 1 ≤ v % 32768 → 1 ≤ itM k v % 32768
  | 0, v, h => h
  | k + 1, v, h => itM_pos k _ (mk_pos v h)
theorem rep_itM : ∀ k v, 1 ≤ v % 32768 → rep mk k v = itM (2 ^ k) v
  | 0, v, _ => rfl
  | k + 1, v, h => by
    have h1 := rep_itM k v h
    have h2 := itM_pos (2 ^ k) v h
    unfold rep
    rw [h1]
    have e : 2 ^ (k + 1) = 2 ^ k + 2 ^ k := by rw [Nat.pow_succ]; omega
    rw [e, itM_add]
    cases hx : itM (2 ^ k) v with
    | zero => rw [hx] at h2; simp at h2
    | succ m =>
      simp only
      rw [hx] at h2
      exact rep_itM k (m + 1) h2
/-- Whatever is in the mask was there at the start, or was met. -/
theorem met : ∀ k v, 1 ≤ v % 32768 → ∀ n, (itM k v / 32768).testBit n = true → (v / 32768).testBit n = true ∨ ∃ j, j ≤ k ∧ it false j (v % 32768) = n
  | 0, v, _, n, h => .inl h
  | k + 1, v, h1, n, h => by
    rcases met k (mk v) (mk_pos v h1) n h with h2 | ⟨j, hj, h2⟩
    · rw [mk_div, Nat.testBit_or, Bool.or_eq_true] at h2
      rcases h2 with h2 | h2
      · exact .inl h2
      · rw [Nat.one_shiftLeft, Nat.testBit_two_pow] at h2
        simp only [decide_eq_true_eq] at h2
        exact .inr ⟨1, by omega, h2⟩
    · rw [mk_mod] at h2
      exact .inr ⟨j + 1, by omega, h2⟩
theorem bitK (K n : Nat) (hK : K ≠ 0) (h1 : 1 ≤ n) (hn : n < K) : (2 ^ K - 2).testBit n = true := by
  rw [show 2 ^ K - 2 = 2 ^ K - (1 + 1) from rfl, Nat.testBit_two_pow_sub_succ (Nat.one_lt_two_pow hK)]
  have h2 : (1 : Nat).testBit n = false := by
    rw [show (1 : Nat) = 2 ^ 0 from rfl, Nat.testBit_two_pow]
    exact decide_eq_false (by omega)
  rw [h2, decide_eq_true hn]
  rfl
theorem cover (n : Nat) (h : 1 ≤ n ∧ n < 32768) : ∃ j, it false j 1 = n := by
  have e := mk_all
  rw [rep_itM 15 (2 * 32768 + 1) (by decide)] at e
  have hb := bitK 32768 n (by decide) h.1 h.2
  rcases met (2 ^ 15) (2 * 32768 + 1) (by decide) n (by rw [e]; exact hb) with h2 | ⟨j, _, h2⟩
  · rw [show (2 * 32768 + 1) / 32768 = 2 ^ 1 by decide, Nat.testBit_two_pow] at h2
    simp only [decide_eq_true_eq] at h2
    exact ⟨0, by rw [← h2]; rfl⟩
  · exact ⟨j, h2⟩
theorem per1 : it false 32767 1 = 1 := by
  have e := long_one
  rw [rep_it false 15 1 (by decide)] at e
  have e2 : it false 1 (it false 32767 1) = it false 1 1 := by rw [← it_add]; exact e
  exact it_inj false 1 _ _ (it_in false 32767 1 (by decide)) (by decide) e2
set_option maxRecDepth 100000 in
theorem per_not : (rep (nxN false) 12 (rep (nxN false) 9 (rep (nxN false) 6 (rep (nxN false) 3 (rep (nxN false) 0 1)))) != 1) = true ∧ (rep (nxN false) 10 (rep (nxN false) 5 (rep (nxN false) 0 1)) != 1) = true ∧ (rep (nxN false) 7 (rep (nxN false) 6 (rep (nxN false) 4 (rep (nxN false) 3 (rep (nxN false) 0 1)))) != 1) = true := ⟨by kernel_rfl, by kernel_rfl, by kernel_rfl⟩
set_option maxRecDepth 100000 in
theorem dvd_all : allR (fun L => L == 0 || L == 32767 || 32767 % L != 0 || 4681 % L == 0 || 1057 % L == 0 || 217 % L == 0) 15 0 = true := by kernel_rfl
theorem it_mul (s : Bool) (n L : Nat) (h : it s L n = n) : ∀ q, it s (L * q) n = n
  | 0 => rfl
  | q + 1 => by rw [Nat.mul_succ, it_add, it_mul s n L h q, h]
theorem long1 : ∀ j, 1 ≤ j → j < 32767 → it false j 1 ≠ 1 := by
  obtain ⟨L, l1, l2, l3, l4⟩ := first_ret false 1 32767 (by decide) per1
  have hd := ret_dvd false 1 L l1 l3 l4 32767 per1
  have b := allR_spec dvd_all L (Nat.zero_le _) (by simp; omega)
  simp only [Bool.or_eq_true, beq_iff_eq, bne_iff_ne] at b
  have n1 : it false 4681 1 ≠ 1 := by
    have := per_not.1
    rw [rep_it false 0 1 (by decide), rep_it false 3 _ (it_in _ _ _ (by decide)), ← it_add, rep_it false 6 _ (it_in _ _ _ (by decide)), ← it_add, rep_it false 9 _ (it_in _ _ _ (by decide)), ← it_add, rep_it false 12 _ (it_in _ _ _ (by decide)), ← it_add] at this
    simpa using this
  have n2 : it false 1057 1 ≠ 1 := by
    have := per_not.2.1
    rw [rep_it false 0 1 (by decide), rep_it false 5 _ (it_in _ _ _ (by decide)), ← it_add, rep_it false 10 _ (it_in _ _ _ (by decide)), ← it_add] at this
    simpa using this
  have n3 : it false 217 1 ≠ 1 := by
    have := per_not.2.2
    rw [rep_it false 0 1 (by decide), rep_it false 3 _ (it_in _ _ _ (by decide)), ← it_add, rep_it false 4 _ (it_in _ _ _ (by decide)), ← it_add, rep_it false 6 _ (it_in _ _ _ (by decide)), ← it_add, rep_it false 7 _ (it_in _ _ _ (by decide)), ← it_add] at this
    simpa using this
  have mul : ∀ K, K % L = 0 → it false K 1 = 1 := fun K hK => by
    have := it_mul false 1 L l3 (K / L)
    rwa [show L * (K / L) = K by have := Nat.div_add_mod K L; omega] at this
  have hL : L = 32767 := by
    rcases b with ((((b | b) | b) | b) | b) | b
    · omega
    · exact b
    · exact absurd hd b
    · exact absurd (mul _ b) n1
    · exact absurd (mul _ b) n2
    · exact absurd (mul _ b) n3
  subst hL
  exact l4
theorem it_comm (s : Bool) (j k b : Nat) : it s k (it s j b) = it s j (it s k b) := by rw [← it_add, ← it_add, Nat.add_comm]
theorem long_ret (n : Nat) (h : 1 ≤ n ∧ n < 32768) : it false 32767 n = n ∧ ∀ j, 1 ≤ j → j < 32767 → it false j n ≠ n := by
  obtain ⟨m, rfl⟩ := cover n h
  refine ⟨by rw [it_comm, per1], fun j h1 h2 e => long1 j h1 h2 ?_⟩
  rw [it_comm] at e
  exact it_inj false m _ _ (it_in false j 1 (by decide)) (by decide) e
end Go.Proofs.YtoempcgniokpiaaDoor.Td
