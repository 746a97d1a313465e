/- Binomial coefficients and the lengths of binary numbers. -/
namespace Cw
/-- the number of subsets with k elements of a set with n elements -/
def binom : Nat → Nat → Nat
  | _, 0 => 1
  | 0, _ + 1 => 0
  | n + 1, k + 1 => binom n k + binom n (k + 1)
@[simp] theorem binom_zero (n : Nat) : binom n 0 = 1 := by cases n <;> rfl
theorem binom_succ (n k : Nat) : binom (n + 1) (k + 1) = binom n k + binom n (k + 1) := rfl
theorem binom_gt : ∀ (n k : Nat), n < k → binom n k = 0 := by
  intro n
  induction n with
  | zero => intro k h; obtain ⟨k, rfl⟩ : ∃ m, k = m + 1 := ⟨k - 1, by omega⟩; rfl
  | succ n ih =>
    intro k h
    obtain ⟨k, rfl⟩ : ∃ m, k = m + 1 := ⟨k - 1, by omega⟩
    rw [binom_succ, ih k (by omega), ih (k + 1) (by omega)]
theorem binom_self (n : Nat) : binom n n = 1 := by
  induction n with
  | zero => rfl
  | succ n ih => rw [binom_succ, ih, binom_gt n (n + 1) (by omega)]
theorem binom_step : ∀ (n k : Nat), binom n (k + 1) * (k + 1) = binom n k * (n - k) := by
  intro n
  induction n with
  | zero => intro k; cases k <;> simp [binom]
  | succ n ih =>
    intro k
    rw [binom_succ, Nat.add_mul, ih k]
    cases k with
    | zero => simp; omega
    | succ k =>
      rw [binom_succ n k, Nat.add_mul, Nat.add_sub_add_right]
      have h1 := ih k
      have e : binom n (k + 1) * (k + 1 + 1) = binom n (k + 1) * (k + 1) + binom n (k + 1) := by rw [Nat.mul_succ]
      rw [e, h1]
      by_cases hk : k + 1 ≤ n
      · have e2 : n - k = (n - (k + 1)) + 1 := by omega
        rw [e2, Nat.mul_add, Nat.mul_add]; omega
      · have h2 : binom n (k + 1) = 0 := binom_gt _ _ (by omega)
        rw [h2]
        have h3 : n - k = 0 := by omega
        simp [h3]
theorem binom_div (n k : Nat) : binom n k * (n - k) / (k + 1) = binom n (k + 1) := by
  rw [← binom_step]; exact Nat.mul_div_cancel _ (by omega)
theorem binom_symm_add : ∀ (a b : Nat), binom (a + b) a = binom (a + b) b := by
  intro a
  induction a with
  | zero => intro b; simp [binom_self]
  | succ a iha =>
    intro b
    induction b with
    | zero => simp [binom_self]
    | succ b ihb =>
      have e1 : a + 1 + (b + 1) = (a + (b + 1)) + 1 := by omega
      have e2 : a + (b + 1) = (a + 1) + b := by omega
      rw [e1, binom_succ, binom_succ, iha (b + 1)]
      have := ihb
      rw [e2, this, ← e2]
      omega
theorem binom_symm {n k : Nat} (h : k ≤ n) : binom n (n - k) = binom n k := by
  have := binom_symm_add (n - k) k
  rwa [show n - k + k = n by omega] at this
theorem binom_pos : ∀ {n k : Nat}, k ≤ n → 0 < binom n k := by
  intro n
  induction n with
  | zero => intro k h; have : k = 0 := by omega
            subst this; simp
  | succ n ih =>
    intro k h
    cases k with
    | zero => simp
    | succ k => rw [binom_succ]; have := ih (k := k) (by omega); omega
theorem binom_le (n : Nat) : ∀ k, binom n k ≤ 2 ^ n := by
  induction n with
  | zero => intro k; cases k <;> simp [binom]
  | succ n ih =>
    intro k
    cases k with
    | zero => simp; exact Nat.one_le_two_pow
    | succ k => rw [binom_succ, Nat.pow_succ]; have := ih k; have := ih (k + 1); omega

/-- the number of binary digits -/
def blen (n : Nat) : Nat := if n = 0 then 0 else Nat.log2 n + 1
theorem blen_zero : blen 0 = 0 := rfl
theorem blen_lt (n : Nat) : n < 2 ^ blen n := by
  unfold blen; split
  · rename_i h; simp [h]
  · exact Nat.lt_log2_self
theorem blen_le {n : Nat} (h : n ≠ 0) : 2 ^ (blen n - 1) ≤ n := by
  unfold blen; rw [if_neg h, Nat.add_sub_cancel]; exact Nat.log2_self_le h
theorem blen_pos {n : Nat} (h : n ≠ 0) : 0 < blen n := by unfold blen; rw [if_neg h]; omega
theorem blen_unique {n b : Nat} (h1 : 2 ^ b ≤ n) (h2 : n < 2 ^ (b + 1)) : blen n = b + 1 := by
  have hn : n ≠ 0 := by have := Nat.two_pow_pos b; omega
  have h3 := blen_le hn
  have h4 := blen_lt n
  have h5 := blen_pos hn
  have a1 : blen n - 1 < b + 1 := (Nat.pow_lt_pow_iff_right (by omega : 1 < 2)).1 (Nat.lt_of_le_of_lt h3 h2)
  have a2 : b < blen n := (Nat.pow_lt_pow_iff_right (by omega : 1 < 2)).1 (Nat.lt_of_le_of_lt h1 h4)
  omega
theorem blen_shift {lo hi s : Nat} (h : lo < 2 ^ s) (hh : hi ≠ 0) : blen (lo + hi * 2 ^ s) = s + blen hi := by
  have h1 := blen_le hh
  have h2 := blen_lt hi
  have h3 := blen_pos hh
  obtain ⟨b, hb⟩ : ∃ b, blen hi = b + 1 := ⟨blen hi - 1, by omega⟩
  rw [hb] at h1 h2
  rw [Nat.add_sub_cancel] at h1
  have h4 : hi * 2 ^ s + 2 ^ s ≤ 2 ^ (b + 1) * 2 ^ s := by rw [← Nat.succ_mul]; exact Nat.mul_le_mul_right _ h2
  have h5 : 2 ^ b * 2 ^ s ≤ hi * 2 ^ s := Nat.mul_le_mul_right _ h1
  rw [← Nat.pow_add] at h4 h5
  rw [blen_unique (b := b + s) (by omega) (by rw [show b + s + 1 = b + 1 + s by omega]; omega), hb]
  omega
theorem blen_half {n : Nat} (h : n ≠ 0) : blen n = blen (n / 2) + 1 := by
  by_cases h2 : n / 2 = 0
  · have : n = 1 := by omega
    subst this; rfl
  · have := blen_shift (lo := n % 2) (hi := n / 2) (s := 1) (by omega) h2
    rw [show n % 2 + n / 2 * 2 ^ 1 = n by omega] at this
    omega
theorem blen_le_32 {n : Nat} (h : n < 4294967296) : blen n ≤ 32 := by
  by_cases h0 : n = 0
  · rw [h0, blen_zero]; omega
  · have h1 := blen_le h0
    have h2 : 2 ^ (blen n - 1) < 2 ^ 32 := by omega
    have := (Nat.pow_lt_pow_iff_right (by omega : 1 < 2)).1 h2
    omega
theorem blen_one_iff (n : Nat) : blen n = 1 ↔ n = 1 := by
  constructor
  · intro h
    have h2 := blen_lt n
    rw [h] at h2
    have : n ≠ 0 := by intro h0; rw [h0, blen_zero] at h; omega
    omega
  · intro h; subst h; rfl
theorem blen_zero_iff (n : Nat) : blen n = 0 ↔ n = 0 := by
  constructor
  · intro h; exact Classical.byContradiction fun k => by have := blen_pos k; omega
  · intro h; subst h; rfl
end Cw
