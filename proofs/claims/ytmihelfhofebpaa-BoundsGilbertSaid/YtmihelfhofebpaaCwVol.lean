/- The numbers of words in balls, as sums. -/
import Derived.Test.YtmihelfhofebpaaCwNatL
import Derived.Test.YtmihelfhofebpaaCwBinom
namespace Cw
/-- 2^a, kept closed -/
def P2 (a : Nat) : Nat := 2 ^ a
theorem P2_mul (a b : Nat) : P2 a * P2 b = P2 (a + b) := (Nat.pow_add 2 a b).symm
theorem P2_le {a b : Nat} (h : a ≤ b) : P2 a ≤ P2 b := Nat.pow_le_pow_right (by omega) h
theorem P2_pos (a : Nat) : 0 < P2 a := Nat.two_pow_pos a
theorem P2_len {x a L : Nat} (h : x ≤ P2 a) (ha : a < 32 * L) : (enc x).length ≤ L :=
  enc_length_le _ (Nat.lt_of_le_of_lt h (two_pow_lt ha))
theorem P2_lt {x a L : Nat} (h : x ≤ P2 a) (ha : a < 32 * L) : x < 4294967296 ^ L := Nat.lt_of_le_of_lt h (two_pow_lt ha)
/-- powers of numbers up to 256 -/
theorem pow_P2 {m i k : Nat} (hm : m ≤ P2 k) : m ^ i ≤ P2 (k * i) := by
  have h1 : m ^ i ≤ (2 ^ k) ^ i := Nat.pow_le_pow_left hm i
  rwa [← Nat.pow_mul] at h1
theorem le_P2_8 {m : Nat} (hm : m ≤ 256) : m ≤ P2 8 := hm
theorem mul_P2 {x y a b : Nat} (hx : x ≤ P2 a) (hy : y ≤ P2 b) : x * y ≤ P2 (a + b) := by
  have := Nat.mul_le_mul hx hy
  rwa [P2_mul] at this
theorem add_P2 {x y a : Nat} (hx : x ≤ P2 a) (hy : y ≤ P2 a) : x + y ≤ P2 (a + 1) := by
  unfold P2 at *
  rw [Nat.pow_succ]; omega

/-- the sum over j below i of C(n, j) m^j -/
def psum (m n : Nat) : Nat → Nat
  | 0 => 0
  | i + 1 => psum m n i + binom n i * m ^ i
theorem pow_small {m i : Nat} (hm : m ≤ 256) (hi : i ≤ 65) : m ^ i ≤ P2 520 :=
  Nat.le_trans (pow_P2 (le_P2_8 hm)) (P2_le (by omega))
theorem binom_small {n : Nat} (hn : n ≤ 64) (k : Nat) : binom n k ≤ P2 64 :=
  Nat.le_trans (binom_le n k) (P2_le hn)
theorem term_small {m n i : Nat} (hm : m ≤ 256) (hn : n ≤ 64) (hi : i ≤ 65) : binom n i * m ^ i ≤ P2 584 :=
  Nat.le_trans (mul_P2 (binom_small hn i) (pow_small hm hi)) (P2_le (by omega))
theorem psum_small' {m n : Nat} (hm : m ≤ 256) (hn : n ≤ 64) : ∀ i, i ≤ 66 → psum m n i ≤ i * P2 584 := by
  intro i
  induction i with
  | zero => intro _; simp [psum]
  | succ i ih =>
    intro hi
    have h1 := ih (by omega)
    have h2 := term_small hm hn (i := i) (by omega)
    rw [psum, Nat.succ_mul]
    exact Nat.add_le_add h1 h2
theorem psum_small {m n i : Nat} (hm : m ≤ 256) (hn : n ≤ 64) (hi : i ≤ 66) : psum m n i ≤ P2 592 := by
  refine Nat.le_trans (psum_small' hm hn i hi) ?_
  have h1 : i ≤ P2 8 := Nat.le_trans hi (by decide)
  exact Nat.le_trans (mul_P2 h1 (Nat.le_refl (P2 584))) (P2_le (by omega))
theorem psum_len {m n i : Nat} (hm : m ≤ 256) (hn : n ≤ 64) (hi : i ≤ 66) : (enc (psum m n i)).length ≤ 1001 := P2_len (psum_small hm hn hi) (by omega)
theorem pow4096 {m i L : Nat} (hL : L = 4096) (hm : m ≤ 256) (hi : i ≤ 65) : m ^ i < 4294967296 ^ L := P2_lt (pow_small hm hi) (by omega)
theorem psum_pos {m n i : Nat} (hi : 0 < i) : 0 < psum m n i := by
  induction i with
  | zero => omega
  | succ i ih =>
    rw [psum]
    by_cases h : i = 0
    · subst h; simp [psum]
    · have := ih (by omega); omega
end Cw
