/- The greatest k up to a bound for which q^(n-k) is above V; 0 if there is none. -/
namespace Cw
def gil (V q n : Nat) : Nat → Nat
  | 0 => 0
  | k + 1 => if V < q ^ (n - (k + 1)) then k + 1 else gil V q n k
theorem gil_le (V q n : Nat) : ∀ k, gil V q n k ≤ k := by
  intro k
  induction k with
  | zero => simp [gil]
  | succ k ih => rw [gil]; split <;> omega
/-- if the answer is not 0, it is as wanted -/
theorem gil_spec (V q n : Nat) : ∀ k, gil V q n k ≠ 0 → V < q ^ (n - gil V q n k) := by
  intro k
  induction k with
  | zero => intro h; exact absurd rfl h
  | succ k ih =>
    intro h
    rw [gil] at h ⊢
    by_cases hc : V < q ^ (n - (k + 1))
    · rw [if_pos hc]; exact hc
    · rw [if_neg hc] at h ⊢; exact ih h
end Cw
