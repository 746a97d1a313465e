/- What the printed functions of package nat compute: times, Mul, Add, digit, Binomial, Bits, Pow. -/
import Derived.Test.YtmihelfhofebpaaBoundsGilbertCNatA
import Derived.Test.YtmihelfhofebpaaCwBinom
namespace Go.Proofs.Ytmihelfhofebpaa.BoundsGilbertC
open Go.RowKit Go.Proofs.Ytmihelfhofebpaa.PBoundsGilbert Go.Proofs.YtmihelfhofebpaaW.PrintWords Go.Proofs.YtmihelfhofebpaaW.PrintLast Go.Proofs.YtmihelfhofebpaaW.PrintMore Cw

theorem times_l (a b : List Int) (m n : Nat) (ha : Is a m) (hb : Is b n) (hla : a.length ≤ 17592186044000) (hlb : b.length ≤ 17592186044000) : ∀ (d i : Nat) (out : List Int),
    i + d = a.length → Lim out → out.length = a.length + b.length → (∀ p, i + b.length ≤ p → out.getD p 0 = 0) → TimesInv a b out 0 i 0 →
    Evt (fun k => nat_times.l0 k b out a (a.length : Int) (i : Int)) (enc (m * n)) := by
  intro d
  induction d with
  | zero =>
    intro i out hi hlim hlen hz he
    refine Evt.step (fun k => nat_times.l0.eq_2 ..) (Evt.neg (by omega) ?_)
    refine Evt.bind (short_ev (n := m * n) ⟨hlim, ?_⟩ (by omega)) (Evt.now _)
    rw [he.last (by omega), ha.2, hb.2, Int.natCast_mul]
  | succ d ih =>
    intro i out hi hlim hlen hz he
    refine Evt.step (fun k => nat_times.l0.eq_2 ..) (Evt.pos (by omega) (Evt.pos (by omega) (Evt.pos (by omega) ?_)))
    rw [rd_nat]
    have hx := ha.1.getD i
    suffices H : ∀ (e j : Nat) (out : List Int) (c : Int), j + e = b.length → Lim out → out.length = a.length + b.length → (∀ p, i + b.length ≤ p → out.getD p 0 = 0) → 0 ≤ c → c < 4294967296 → TimesInv a b out c i j →
        Evt (fun k => nat_times.l1 k b out (i : Int) (a.getD i 0) c a (a.length : Int) (i : Int) b (b.length : Int) (j : Int)) (enc (m * n)) from
      H b.length 0 out 0 (by omega) hlim hlen hz (by omega) (by omega) he
    intro e
    induction e with
    | zero =>
      intro j out c hj hlim hlen hz hc0 hc1 he
      refine Evt.step (fun k => nat_times.l1.eq_2 ..) (Evt.neg (by omega) ?_)
      have hj' : j = b.length := by omega
      subst hj'
      rw [wadd (by omega), wsucc (by omega), mod_limb hc0 hc1, Int.toNat_natCast]
      refine Evt.pos (by omega) (Evt.pos (by omega) ?_)
      exact ih (i + 1) _ (by omega) (hlim.set _ hc0 hc1) (by rw [List.length_set]; omega) (fun p hp => by rw [lset_ne _ _ _ _ (by omega)]; exact hz p (by omega)) (he.next (by omega) (hz _ (Nat.le_refl _)))
    | succ e ihe =>
      intro j out c hj hlim hlen hz hc0 hc1 he
      refine Evt.step (fun k => nat_times.l1.eq_2 ..) (Evt.pos (by omega) (Evt.pos (by omega) (Evt.pos (by omega) ?_)))
      rw [wadd (by omega), wsucc (by omega)]
      refine Evt.pos (by omega) (Evt.pos (by omega) ?_)
      rw [rd_nat, rd_nat, Int.toNat_natCast]
      have hy := hb.1.getD j
      have ho := hlim.getD (i + j)
      have hm := mul_lim hx hy
      have hn := he.step (by omega)
      rw [wu64 hx.1 (by omega), wu64 hy.1 (by omega), wu64 hm.1 (by omega), wu64 ho.1 (by omega), wu64 (x := a.getD i 0 * b.getD j 0 + out.getD (i + j) 0) (by omega) (by omega), wu64 (x := a.getD i 0 * b.getD j 0 + out.getD (i + j) 0 + c) (by omega) (by omega)]
      exact ihe (j + 1) _ _ (by omega) (hlim.set _ (by omega) (by omega)) (by rw [List.length_set]; omega) (fun p hp => by rw [lset_ne _ _ _ _ (by omega)]; exact hz p hp) (by omega) (by omega) hn

theorem times_ev {a b : List Int} {m n : Nat} (ha : Is a m) (hb : Is b n) (hla : a.length ≤ 17592186044000) (hlb : b.length ≤ 17592186044000) : Evt (fun k => nat_times.f k a b) (enc (m * n)) := by
  unfold nat_times.f
  rw [wadd (by omega), Int.toNat_natCast]
  refine Evt.pos (by omega) (Evt.pos (by omega) ?_)
  exact times_l a b m n ha hb hla hlb a.length 0 _ (by omega) (Lim.zeros _) (by simp) (fun p _ => lzeros_getD _ _) (TimesInv.start ..)

/-- Mul of two factors -/
theorem mul2_ev {a b : List Int} {m n : Nat} (ha : Is a m) (hb : Is b n) (hla : a.length ≤ 1000000000) (hlb : b.length ≤ 1000000000) : Evt (fun k => nat_Mul.f k [a, b]) (enc (m * n)) := by
  have h1 := ha.enc_length
  have h2 := hb.enc_length
  have hab : (enc (m * n)).length ≤ a.length + b.length := enc_length_le _ (by
    rw [Nat.pow_add]; exact Nat.mul_lt_mul'' ha.lt hb.lt)
  refine Evt.step (f := fun k => nat_Mul.l0 (k + 1) [1] [a, b] 2 0) (fun k => rfl) ?_
  refine Evt.congr (fun k => nat_Mul.l0.eq_2 ..) (Evt.pos (by omega) (Evt.pos (by omega) (Evt.pos (by simp) ?_)))
  rw [show rd_L1 [a, b] 0 = a from rfl, show wrap64 (0 + 1) = 1 by unfold wrap64; omega]
  refine Evt.bind (short_ev ha (by omega)) (Evt.bind (times_ev (m := 1) (n := m) ⟨Lim.cons (by omega) (by omega) Lim.nil, rfl⟩ (enc_is m) (by simp) (by omega)) ?_)
  rw [Nat.one_mul]
  refine Evt.step (fun k => nat_Mul.l0.eq_2 ..) (Evt.pos (by omega) (Evt.pos (by omega) (Evt.pos (by simp) ?_)))
  rw [show rd_L1 [a, b] 1 = b from rfl, show wrap64 (1 + 1) = 2 by unfold wrap64; omega]
  refine Evt.bind (short_ev hb (by omega)) (Evt.bind (times_ev (enc_is m) (enc_is n) (by omega) (by omega)) ?_)
  refine Evt.step (fun k => nat_Mul.l0.eq_2 ..) (Evt.neg (by omega) (Evt.bind (trim_ev (enc_is _) (by omega)) (Evt.now _)))

/-- Add of two terms -/
theorem add2_ev {a b : List Int} {m n : Nat} (ha : Is a m) (hb : Is b n) (hla : a.length ≤ 1000000000) (hlb : b.length ≤ 1000000000) : Evt (fun k => nat_Add.f k [a, b]) (enc (m + n)) := by
  have h1 := ha.enc_length
  have h2 := hb.enc_length
  have hab : (enc (m + n)).length ≤ a.length + b.length + 1 := enc_length_le _ (by
    have e1 := ha.lt
    have e2 := hb.lt
    have e3 : 4294967296 ^ a.length ≤ 4294967296 ^ (a.length + b.length) := Nat.pow_le_pow_right (by omega) (by omega)
    have e4 : 4294967296 ^ b.length ≤ 4294967296 ^ (a.length + b.length) := Nat.pow_le_pow_right (by omega) (by omega)
    rw [Nat.pow_succ]; omega)
  refine Evt.step (f := fun k => nat_Add.l0 (k + 1) [] [a, b] 2 0) (fun k => rfl) ?_
  refine Evt.congr (fun k => nat_Add.l0.eq_2 ..) (Evt.pos (by omega) (Evt.pos (by omega) (Evt.pos (by simp) ?_)))
  rw [show rd_L1 [a, b] 0 = a from rfl, show wrap64 (0 + 1) = 1 by unfold wrap64; omega]
  refine Evt.bind (short_ev ha (by omega)) (Evt.bind (plus_ev (m := 0) (n := m) Is.nil (enc_is m) (by simp) (by omega)) ?_)
  rw [Nat.zero_add]
  refine Evt.step (fun k => nat_Add.l0.eq_2 ..) (Evt.pos (by omega) (Evt.pos (by omega) (Evt.pos (by simp) ?_)))
  rw [show rd_L1 [a, b] 1 = b from rfl, show wrap64 (1 + 1) = 2 by unfold wrap64; omega]
  refine Evt.bind (short_ev hb (by omega)) (Evt.bind (plus_ev (enc_is m) (enc_is n) (by omega) (by omega)) ?_)
  refine Evt.step (fun k => nat_Add.l0.eq_2 ..) (Evt.neg (by omega) (Evt.bind (trim_ev (enc_is _) (by omega)) (Evt.now _)))

theorem digit_l0 (a : List Int) (n : Nat) (d : Nat) (ha : Is a n) (hd0 : 0 < d) (hd1 : d < 4294967296) (hl : a.length ≤ 17592186044000) : ∀ (i : Nat) (out : List Int) (r : Int),
    i ≤ a.length → Lim out → out.length = a.length → (∀ p, p < i → out.getD p 0 = 0) → 0 ≤ r → r < d → DigInv a d out r i →
    Evt (fun k => nat_digit.l0 k a d out r ((i : Int) - 1)) (enc (n / d), ((n % d : Nat) : Int)) := by
  intro i
  induction i with
  | zero =>
    intro out r hi hlim hlen hz hr0 hr1 he
    refine Evt.step (fun k => nat_digit.l0.eq_2 ..) (Evt.neg (by omega) ?_)
    have h1 := he.last
    have h2 := hlim.is
    rw [ha.2, h2.2] at h1
    generalize (ev out 4294967296).toNat = q at *
    have hn : n = q * d + r.toNat := by
      have : (q : Int) * d = ((q * d : Nat) : Int) := by rw [Int.natCast_mul]
      omega
    have hq : n / d = q := by rw [hn, Nat.mul_comm, Nat.mul_add_div hd0, Nat.div_eq_of_lt (by omega)]; rfl
    have hm : n % d = r.toNat := by rw [hn, Nat.mul_comm, Nat.mul_add_mod, Nat.mod_eq_of_lt (by omega)]
    refine Evt.bind (short_ev h2 (by omega)) (Evt.now' ?_)
    rw [hq, hm, mod_limb hr0 (by omega)]
    have : ((r.toNat : Nat) : Int) = r := by omega
    rw [this]
  | succ i ih =>
    intro out r hi hlim hlen hz hr0 hr1 he
    refine Evt.step (fun k => nat_digit.l0.eq_2 ..) ?_
    rw [show (((i + 1 : Nat) : Int) - 1) = (i : Int) by omega, wpred2 (by omega)]
    have hx := ha.1.getD i
    have hs := dig_small (d := (d : Int)) ⟨hr0, hr1⟩ hx (by omega)
    have hn := he.step (by omega) (hz i (by omega))
    rw [wu64n (i := d) (by omega)]
    refine Evt.pos (by omega) (Evt.pos (by omega) (Evt.pos (by omega) (Evt.neg (by omega) (Evt.pos (by omega) ?_))))
    rw [rd_nat, wu64 (x := r * 4294967296) (by omega) (by omega), wu64 hx.1 (by omega), or_limb (by omega) hx, Int.toNat_natCast, tdivp (by omega), tmodp (by omega), wu64 hs.1 (by omega), mod_limb hs.1 hs.2]
    exact ih _ _ (by omega) (hlim.set _ hs.1 hs.2) (by rw [List.length_set]; omega) (fun p hp => by rw [lset_ne _ _ _ _ (by omega)]; exact hz p (by omega)) (Int.emod_nonneg _ (by omega)) (Int.emod_lt_of_pos _ (by omega)) hn

theorem digit_ev {a : List Int} {n d : Nat} (ha : Is a n) (hd0 : 0 < d) (hd1 : d < 4294967296) (hl : a.length ≤ 17592186044000) : Evt (fun k => nat_digit.f k a d) (enc (n / d), ((n % d : Nat) : Int)) := by
  unfold nat_digit.f
  refine Evt.pos (by omega) (Evt.pos (by omega) ?_)
  rw [w64 (by omega) (by omega), Int.toNat_natCast]
  exact digit_l0 a n d ha hd0 hd1 hl a.length _ 0 (Nat.le_refl _) (Lim.zeros _) (by simp) (fun p _ => lzeros_getD _ _) (by omega) (by omega) (DigInv.start ..)

theorem binomial_l0 (n K : Nat) (hn : n ≤ 4096) (hK : K ≤ n) : ∀ (d i : Nat), i + d = K → Evt (fun k => nat_Binomial.l0 k n (enc (binom n i)) K i) (enc (binom n K), 0) := by
  have hlen : ∀ j, (enc (binom n j)).length ≤ 129 := fun j => enc_length_le _ (by
    exact Nat.lt_of_le_of_lt (binom_le n j) (two_pow_lt (by omega)))
  intro d
  induction d with
  | zero =>
    intro i hi
    have : i = K := by omega
    subst this
    have := hlen i
    exact Evt.step (fun k => nat_Binomial.l0.eq_2 ..) (Evt.neg (by omega) (Evt.bind (trim_ev (enc_is _) (by omega)) (Evt.now _)))
  | succ d ih =>
    intro i hi
    have h1 := hlen i
    refine Evt.step (fun k => nat_Binomial.l0.eq_2 ..) (Evt.pos (by omega) ?_)
    rw [wsub (by omega) (by omega), wsucc (by omega), mod_limb (x := ((n - i : Nat) : Int)) (by omega) (by omega), mod_limb (x := ((i + 1 : Nat) : Int)) (by omega) (by omega)]
    refine Evt.bind (times_ev (enc_is _) (n := n - i) ⟨Lim.cons (by omega) (by omega) Lim.nil, by simp⟩ (by omega) (by simp)) ?_
    have h2 : (enc (binom n i * (n - i))).length ≤ 130 := enc_length_le _ (by
      have := lt_of_enc_length h1
      rw [show (130 : Nat) = 129 + 1 by rfl, Nat.pow_succ]
      exact Nat.mul_lt_mul'' this (by omega))
    refine Evt.bind (digit_ev (enc_is _) (by omega) (by omega) (by omega)) ?_
    rw [binom_div]
    exact ih (i + 1) (by omega)

theorem binomial_ev (n k : Nat) (hn : n ≤ 4096) : Evt (fun r => nat_Binomial.f r n k) (enc (binom n k), 0) := by
  unfold nat_Binomial.f
  refine Evt.neg (by omega) ?_
  rw [decide_eq_false (by omega : ¬ (n : Int) > 4096)]
  refine Evt.step (fun k => nat_Binomial.j0.eq_2 ..) (Evt.neg (by simp) (Evt.neg (by omega) ?_))
  by_cases h : k > n
  · rw [decide_eq_true (by omega : (k : Int) > n), binom_gt _ _ h, enc_zero]
    exact Evt.step (fun k => nat_Binomial.j1.eq_2 ..) (Evt.pos rfl (Evt.now _))
  · rw [decide_eq_false (by omega : ¬ (k : Int) > n)]
    refine Evt.step (fun k => nat_Binomial.j1.eq_2 ..) (Evt.neg (by simp) ?_)
    rw [w64 (by omega) (by omega), mn_eq]
    have h1 : ([1] : List Int) = enc (binom n 0) := by rw [binom_zero, enc_pos (by omega), Nat.div_eq_of_lt (by omega), enc_zero]; rfl
    by_cases h2 : ((n : Int) - k) < k
    · rw [if_pos h2, h1, show ((n : Int) - k) = ((n - k : Nat) : Int) by omega, ← binom_symm (show k ≤ n by omega)]
      exact binomial_l0 n (n - k) hn (by omega) (n - k) 0 (by omega)
    · rw [if_neg h2, h1]
      exact binomial_l0 n k hn (by omega) k 0 (by omega)
theorem binomial_neg (n : Nat) (k : Int) (hn : n ≤ 4096) (hk : k < 0) : Evt (fun r => nat_Binomial.f r n k) ([], 0) := by
  unfold nat_Binomial.f
  refine Evt.neg (by omega) ?_
  rw [decide_eq_false (by omega : ¬ (n : Int) > 4096)]
  refine Evt.step (fun k => nat_Binomial.j0.eq_2 ..) (Evt.neg (by simp) (Evt.pos hk ?_))
  exact Evt.step (fun k => nat_Binomial.j1.eq_2 ..) (Evt.pos rfl (Evt.now _))
end Go.Proofs.Ytmihelfhofebpaa.BoundsGilbertC
