/- Wraps of integers that fit, and reads of lists, as the printed functions write them. -/
import Derived.RowKit
import Derived.Laws.BitsLemmas
import Derived.Test.YtjignpnnmfdedaaQChannelPatternsWMore
import Derived.Test.YtjignpnnmfdedaaQChannelPatternsLib
import Derived.Test.YtjignpnnmfdedaaQChannelPatternsx
namespace Go.Proofs.Ytjignpnnmfdedaa.ChannelPatternsC
open Go.RowKit Go Go.Proofs.YtjignpnnmfdedaaW.PrintWords Go.Proofs.YtjignpnnmfdedaaW.PrintLast Go.Proofs.YtjignpnnmfdedaaW.PrintMore Cw
theorem w64 {x : Int} (h0 : -9223372036854775808 ≤ x) (h1 : x ≤ 9223372036854775807) : wrap64 x = x := by unfold wrap64; omega
theorem wu64 {x : Int} (h0 : 0 ≤ x) (h1 : x < 18446744073709551616) : IntKind.u64.wrap x = x := by
 simp only [IntKind.wrap, IntKind.bits, IntKind.signed]; simp; omega
theorem wadd {i j : Nat} (h : i + j ≤ 9223372036854775807) : wrap64 ((i : Int) + (j : Int)) = ((i + j : Nat) : Int) := by rw [w64 (by omega) (by omega)]; omega
theorem wsucc {i : Nat} (h : i < 9223372036854775807) : wrap64 ((i : Int) + 1) = ((i + 1 : Nat) : Int) := by rw [w64 (by omega) (by omega)]; omega
theorem wpred {i : Nat} (h : i < 9223372036854775807) : wrap64 (((i + 1 : Nat) : Int) - 1) = (i : Int) := by rw [w64 (by omega) (by omega)]; omega
theorem wpred2 {i : Nat} (h : i < 9223372036854775807) : wrap64 ((i : Int) - 1) = (i : Int) - 1 := by rw [w64 (by omega) (by omega)]
theorem wsub {i j : Nat} (h : i < 9223372036854775807) (hj : j ≤ i) : wrap64 ((i : Int) - (j : Int)) = ((i - j : Nat) : Int) := by rw [w64 (by omega) (by omega)]; omega
theorem wpredn {i : Nat} (h : 1 ≤ i) (h2 : i ≤ 9223372036854775807) : wrap64 ((i : Int) - 1) = ((i - 1 : Nat) : Int) := by rw [w64 (by omega) (by omega)]; omega
theorem wu64n {i : Nat} (h : i < 18446744073709551616) : IntKind.u64.wrap (i : Int) = (i : Int) := wu64 (by omega) (by omega)
theorem wu64_mod (x : Int) : IntKind.u64.wrap x = x % 18446744073709551616 := by
 simp [IntKind.wrap, IntKind.bits, IntKind.signed]
/- No equation on a wrap may stand in a context in which omega is called: two such atoms are compared by unfolding. -/
theorem wraps_u64 (n : Int) (h0 : 0 ≤ n) (h1 : n < 2 ^ 64) : IntKind.u64.wrap n = n := wu64 h0 (by simpa using h1)
theorem wraps_i64 (n : Int) (h0 : 0 ≤ n) (h1 : n < 2 ^ 63) : IntKind.i64.wrap n = n := by
 rw [IntKind.wrap_i64]; omega
/-- a limb above a limb -/
theorem or_limb {x y : Int} (hx : 0 ≤ x ∧ x < 4294967296) (hy : 0 ≤ y ∧ y < 4294967296) : Go.bits .or .u64 (x * 4294967296) y = x * 4294967296 + y :=
 bits_join .u64 64 (by decide) wraps_u64 32 _ _ (by omega) (by omega) (by omega) hy.1 (by omega) (by omega)
theorem and_one {x : Int} (h0 : 0 ≤ x) (h1 : x < 9223372036854775808) : Go.bits .and .i64 x 1 = x % 2 :=
 bits_mask .i64 63 (by decide) wraps_i64 1 (by decide) x h0 (by simpa using h1)
theorem mn_eq (a b : Int) : mn a b = if b < a then b else a := rfl
theorem mx_eq (a b : Int) : mx a b = if a < b then b else a := rfl
theorem rd_nat (xs : List Int) (i : Nat) : rd xs (i : Int) = xs.getD i 0 := rfl
theorem tdivp {a b : Int} (h : 0 ≤ a) : Int.tdiv a b = a / b := Int.tdiv_eq_ediv_of_nonneg h
theorem tmodp {a b : Int} (h : 0 ≤ a) : Int.tmod a b = a % b := Int.tmod_eq_emod_of_nonneg h
/-- a limb is its own remainder -/
theorem mod_limb {x : Int} (h0 : 0 ≤ x) (h1 : x < 4294967296) : x % 4294967296 = x := Int.emod_eq_of_lt h0 h1
end Go.Proofs.Ytjignpnnmfdedaa.ChannelPatternsC
/- What the printed functions of package nat compute: short, Trim, Of, plus, Add, times, Mul. -/
namespace Go.Proofs.Ytjignpnnmfdedaa.ChannelPatternsC
open Go.RowKit Go.Proofs.Ytjignpnnmfdedaa.PChannelPatterns Go.Proofs.YtjignpnnmfdedaaW.PrintWords Go.Proofs.YtjignpnnmfdedaaW.PrintLast Go.Proofs.YtjignpnnmfdedaaW.PrintMore Cw
theorem short_l0 (xs : List Int) (n : Nat) (hx : Is xs n) (hl : xs.length ≤ 140737488355328) : ∀ m : Nat, m ≤ xs.length → (∀ i, m ≤ i → i < xs.length → xs.getD i 0 = 0) →
  Evt (fun k => nat_short.l0 k xs m) (enc n) := by
 intro m
 induction m with
 | zero =>
  intro hm h
  refine Evt.step (fun k => nat_short.l0.eq_2 ..) (Evt.neg (by omega) (Evt.pos (by omega) (Evt.pos (by omega) (Evt.now' ?_))))
  exact take_eq_enc hx 0 hm h (.inl rfl)
 | succ m ih =>
  intro hm h
  refine Evt.step (fun k => nat_short.l0.eq_2 ..) ?_
  rw [wpred (by omega)]
  refine Evt.pos (by omega) (Evt.pos (by omega) (Evt.pos (by omega) ?_))
  by_cases hz : rd xs (m : Int) = 0
  ·
   refine Evt.pos hz (ih (by omega) fun i h1 h2 => ?_)
   by_cases hi : i = m
   ·
    rw [hi]; exact hz
   ·
    exact h i (by omega) h2
  ·
   refine Evt.neg hz (Evt.pos (by omega) (Evt.pos (by omega) (Evt.now' ?_)))
   exact take_eq_enc hx (m + 1) hm h (.inr hz)
theorem short_ev {xs : List Int} {n : Nat} (hx : Is xs n) (hl : xs.length ≤ 140737488355328) : Evt (fun k => nat_short.f k xs) (enc n) :=
 short_l0 xs n hx hl xs.length (Nat.le_refl _) (fun i h1 h2 => by omega)
theorem trim_ev {xs : List Int} {n : Nat} (hx : Is xs n) (hl : xs.length ≤ 35184372088831) : Evt (fun k => nat_Trim.f k xs) (enc n) := by
 unfold nat_Trim.f
 have := hx.enc_length
 exact Evt.bind (short_ev hx (by omega)) (Evt.pos (by simp; omega) (Evt.now' (by simp)))
theorem of_ev (n : Nat) (h : n < 18446744073709551616) : Evt (fun k => nat_Of.f k n) (enc n) := by
 unfold nat_Of.f
 refine Evt.bind (trim_ev (n := n) ⟨?_, ?_⟩ (by simp)) (Evt.now _)
 ·
  exact Lim.cons (by omega) (by omega) (Lim.cons (by omega) (by omega) Lim.nil)
 ·
  simp only [ev_cons, ev_nil]; omega
end Go.Proofs.Ytjignpnnmfdedaa.ChannelPatternsC
/- What the printed functions of package nat compute: times, Mul, Add, digit, Binomial, Bits, Pow. -/
namespace Go.Proofs.Ytjignpnnmfdedaa.ChannelPatternsC
open Go.RowKit Go.Proofs.Ytjignpnnmfdedaa.PChannelPatterns Go.Proofs.YtjignpnnmfdedaaW.PrintWords Go.Proofs.YtjignpnnmfdedaaW.PrintLast Go.Proofs.YtjignpnnmfdedaaW.PrintMore Cw
theorem times_l (a b : List Int) (m n : Nat) (ha : Is a m) (hb : Is b n) (hla : a.length ≤ 17592186044000) (hlb : b.length ≤ 17592186044000) : ∀ (d i : Nat) (out : List Int),
  i + d = a.length → Lim out → out.length = a.length + b.length → (∀ p, i + b.length ≤ p → out.getD p 0 = 0) → TimesInv a b out 0 i 0 →
  Evt (fun k => nat_times.l0 k b out a (a.length : Int) (i : Int)) (enc (m * n)) := by
 intro d
 induction d with
 | zero =>
  intro i out hi hlim hlen hz he
  refine Evt.step (fun k => nat_times.l0.eq_2 ..) (Evt.neg (by omega) ?_)
  refine Evt.bind (short_ev (n := m * n) ⟨hlim, ?_⟩ (by omega)) (Evt.now _)
  rw [he.last (by omega), ha.2, hb.2, Int.natCast_mul]
 | succ d ih =>
  intro i out hi hlim hlen hz he
  refine Evt.step (fun k => nat_times.l0.eq_2 ..) (Evt.pos (by omega) (Evt.pos (by omega) (Evt.pos (by omega) ?_)))
  rw [rd_nat]
  have hx := ha.1.getD i
  suffices H : ∀ (e j : Nat) (out : List Int) (c : Int), j + e = b.length → Lim out → out.length = a.length + b.length → (∀ p, i + b.length ≤ p → out.getD p 0 = 0) → 0 ≤ c → c < 4294967296 → TimesInv a b out c i j →
    Evt (fun k => nat_times.l1 k b out (i : Int) (a.getD i 0) c a (a.length : Int) (i : Int) b (b.length : Int) (j : Int)) (enc (m * n)) from
   H b.length 0 out 0 (by omega) hlim hlen hz (by omega) (by omega) he
  intro e
  induction e with
  | zero =>
   intro j out c hj hlim hlen hz hc0 hc1 he
   refine Evt.step (fun k => nat_times.l1.eq_2 ..) (Evt.neg (by omega) ?_)
   have hj' : j = b.length := by omega
   subst hj'
   rw [wadd (by omega), wsucc (by omega), mod_limb hc0 hc1, Int.toNat_natCast]
   refine Evt.pos (by omega) (Evt.pos (by omega) ?_)
   exact ih (i + 1) _ (by omega) (hlim.set _ hc0 hc1) (by rw [List.length_set]; omega) (fun p hp => by rw [lset_ne _ _ _ _ (by omega)]; exact hz p (by omega)) (he.next (by omega) (hz _ (Nat.le_refl _)))
  | succ e ihe =>
   intro j out c hj hlim hlen hz hc0 hc1 he
   refine Evt.step (fun k => nat_times.l1.eq_2 ..) (Evt.pos (by omega) (Evt.pos (by omega) (Evt.pos (by omega) ?_)))
   rw [wadd (by omega), wsucc (by omega)]
   refine Evt.pos (by omega) (Evt.pos (by omega) ?_)
   rw [rd_nat, rd_nat, Int.toNat_natCast]
   have hy := hb.1.getD j
   have ho := hlim.getD (i + j)
   have hm := mul_lim hx hy
   have hn := he.step (by omega)
   rw [wu64 hx.1 (by omega), wu64 hy.1 (by omega), wu64 hm.1 (by omega), wu64 ho.1 (by omega), wu64 (x := a.getD i 0 * b.getD j 0 + out.getD (i + j) 0) (by omega) (by omega), wu64 (x := a.getD i 0 * b.getD j 0 + out.getD (i + j) 0 + c) (by omega) (by omega)]
   exact ihe (j + 1) _ _ (by omega) (hlim.set _ (by omega) (by omega)) (by rw [List.length_set]; omega) (fun p hp => by rw [lset_ne _ _ _ _ (by omega)]; exact hz p hp) (by omega) (by omega) hn
theorem times_ev {a b : List Int} {m n : Nat} (ha : Is a m) (hb : Is b n) (hla : a.length ≤ 17592186044000) (hlb : b.length ≤ 17592186044000) : Evt (fun k => nat_times.f k a b) (enc (m * n)) := by
 unfold nat_times.f
 rw [wadd (by omega), Int.toNat_natCast]
 refine Evt.pos (by omega) (Evt.pos (by omega) ?_)
 exact times_l a b m n ha hb hla hlb a.length 0 _ (by omega) (Lim.zeros _) (by simp) (fun p _ => lzeros_getD _ _) (TimesInv.start ..)
theorem digit_l0 (a : List Int) (n : Nat) (d : Nat) (ha : Is a n) (hd0 : 0 < d) (hd1 : d < 4294967296) (hl : a.length ≤ 17592186044000) : ∀ (i : Nat) (out : List Int) (r : Int),
  i ≤ a.length → Lim out → out.length = a.length → (∀ p, p < i → out.getD p 0 = 0) → 0 ≤ r → r < d → DigInv a d out r i →
  Evt (fun k => nat_digit.l0 k a d out r ((i : Int) - 1)) (enc (n / d), ((n % d : Nat) : Int)) := by
 intro i
 induction i with
 | zero =>
  intro out r hi hlim hlen hz hr0 hr1 he
  refine Evt.step (fun k => nat_digit.l0.eq_2 ..) (Evt.neg (by omega) ?_)
  have h1 := he.last
  have h2 := hlim.is
  rw [ha.2, h2.2] at h1
  generalize (ev out 4294967296).toNat = q at *
  have hn : n = q * d + r.toNat := by
   have : (q : Int) * d = ((q * d : Nat) : Int) := by rw [Int.natCast_mul]
   omega
  have hq : n / d = q := by rw [hn, Nat.mul_comm, Nat.mul_add_div hd0, Nat.div_eq_of_lt (by omega)]; rfl
  have hm : n % d = r.toNat := by rw [hn, Nat.mul_comm, Nat.mul_add_mod, Nat.mod_eq_of_lt (by omega)]
  refine Evt.bind (short_ev h2 (by omega)) (Evt.now' ?_)
  rw [hq, hm, mod_limb hr0 (by omega)]
  have : ((r.toNat : Nat) : Int) = r := by omega
  rw [this]
 | succ i ih =>
  intro out r hi hlim hlen hz hr0 hr1 he
  refine Evt.step (fun k => nat_digit.l0.eq_2 ..) ?_
  rw [show (((i + 1 : Nat) : Int) - 1) = (i : Int) by omega, wpred2 (by omega)]
  have hx := ha.1.getD i
  have hs := dig_small (d := (d : Int)) ⟨hr0, hr1⟩ hx (by omega)
  have hn := he.step (by omega) (hz i (by omega))
  rw [wu64n (i := d) (by omega)]
  refine Evt.pos (by omega) (Evt.pos (by omega) (Evt.pos (by omega) (Evt.neg (by omega) (Evt.pos (by omega) ?_))))
  rw [rd_nat, wu64 (x := r * 4294967296) (by omega) (by omega), wu64 hx.1 (by omega), or_limb (by omega) hx, Int.toNat_natCast, tdivp (by omega), tmodp (by omega), wu64 hs.1 (by omega), mod_limb hs.1 hs.2]
  exact ih _ _ (by omega) (hlim.set _ hs.1 hs.2) (by rw [List.length_set]; omega) (fun p hp => by rw [lset_ne _ _ _ _ (by omega)]; exact hz p (by omega)) (Int.emod_nonneg _ (by omega)) (Int.emod_lt_of_pos _ (by omega)) hn
theorem digit_ev {a : List Int} {n d : Nat} (ha : Is a n) (hd0 : 0 < d) (hd1 : d < 4294967296) (hl : a.length ≤ 17592186044000) : Evt (fun k => nat_digit.f k a d) (enc (n / d), ((n % d : Nat) : Int)) := by
 unfold nat_digit.f
 refine Evt.pos (by omega) (Evt.pos (by omega) ?_)
 rw [w64 (by omega) (by omega), Int.toNat_natCast]
 exact digit_l0 a n d ha hd0 hd1 hl a.length _ 0 (Nat.le_refl _) (Lim.zeros _) (by simp) (fun p _ => lzeros_getD _ _) (by omega) (by omega) (DigInv.start ..)
theorem binomial_l0 (n K : Nat) (hn : n ≤ 4096) (hK : K ≤ n) : ∀ (d i : Nat), i + d = K → Evt (fun k => nat_Binomial.l0 k n (enc (binom n i)) K i) (enc (binom n K), 0) := by
 have hlen : ∀ j, (enc (binom n j)).length ≤ 129 := fun j => enc_length_le _ (by
  exact Nat.lt_of_le_of_lt (binom_le n j) (two_pow_lt (by omega)))
 intro d
 induction d with
 | zero =>
  intro i hi
  have : i = K := by omega
  subst this
  have := hlen i
  exact Evt.step (fun k => nat_Binomial.l0.eq_2 ..) (Evt.neg (by omega) (Evt.bind (trim_ev (enc_is _) (by omega)) (Evt.now _)))
 | succ d ih =>
  intro i hi
  have h1 := hlen i
  refine Evt.step (fun k => nat_Binomial.l0.eq_2 ..) (Evt.pos (by omega) ?_)
  rw [wsub (by omega) (by omega), wsucc (by omega), mod_limb (x := ((n - i : Nat) : Int)) (by omega) (by omega), mod_limb (x := ((i + 1 : Nat) : Int)) (by omega) (by omega)]
  refine Evt.bind (times_ev (enc_is _) (n := n - i) ⟨Lim.cons (by omega) (by omega) Lim.nil, by simp⟩ (by omega) (by simp)) ?_
  have h2 : (enc (binom n i * (n - i))).length ≤ 130 := enc_length_le _ (by
   have := lt_of_enc_length h1
   rw [show (130 : Nat) = 129 + 1 by rfl, Nat.pow_succ]
   exact Nat.mul_lt_mul'' this (by omega))
  refine Evt.bind (digit_ev (enc_is _) (by omega) (by omega) (by omega)) ?_
  rw [binom_div]
  exact ih (i + 1) (by omega)
theorem binomial_ev (n k : Nat) (hn : n ≤ 4096) : Evt (fun r => nat_Binomial.f r n k) (enc (binom n k), 0) := by
 unfold nat_Binomial.f
 refine Evt.neg (by omega) ?_
 rw [decide_eq_false (by omega : ¬ (n : Int) > 4096)]
 refine Evt.step (fun k => nat_Binomial.j0.eq_2 ..) (Evt.neg (by simp) (Evt.neg (by omega) ?_))
 by_cases h : k > n
 ·
  rw [decide_eq_true (by omega : (k : Int) > n), binom_gt _ _ h, enc_zero]
  exact Evt.step (fun k => nat_Binomial.j1.eq_2 ..) (Evt.pos rfl (Evt.now _))
 ·
  rw [decide_eq_false (by omega : ¬ (k : Int) > n)]
  refine Evt.step (fun k => nat_Binomial.j1.eq_2 ..) (Evt.neg (by simp) ?_)
  rw [w64 (by omega) (by omega), mn_eq]
  have h1 : ([1] : List Int) = enc (binom n 0) := by rw [binom_zero, enc_pos (by omega), Nat.div_eq_of_lt (by omega), enc_zero]; rfl
  by_cases h2 : ((n : Int) - k) < k
  ·
   rw [if_pos h2, h1, show ((n : Int) - k) = ((n - k : Nat) : Int) by omega, ← binom_symm (show k ≤ n by omega)]
   exact binomial_l0 n (n - k) hn (by omega) (n - k) 0 (by omega)
  ·
   rw [if_neg h2, h1]
   exact binomial_l0 n k hn (by omega) k 0 (by omega)
end Go.Proofs.Ytjignpnnmfdedaa.ChannelPatternsC
/- What the printed functions of package nat compute: step (Knuth's algorithm D). -/
namespace Go.Proofs.Ytjignpnnmfdedaa.ChannelPatternsC
open Go.RowKit Go.Proofs.Ytjignpnnmfdedaa.PChannelPatterns Go.Proofs.YtjignpnnmfdedaaW.PrintWords Go.Proofs.YtjignpnnmfdedaaW.PrintLast Go.Proofs.YtjignpnnmfdedaaW.PrintMore Cw
theorem wu64p {e : Int} (h0 : 1 ≤ e) (h1 : e < 18446744073709551616) : IntKind.u64.wrap (e - 1) = e - 1 := wu64 (by omega) (by omega)
/-- the estimate of the digit: whatever is told of each e' from q to q + 1 is told of the loop -/
theorem est_l0 (u v : List Int) (K : Nat) (P vl ul q : Int) (X : Int × List Int) (hu : Lim u) (hv : Lim v) (hK : 2 ≤ K) (hvl : v.length = K) (hul : u.length = K + 1) (hKb : K ≤ 1000000000)
  (kn : KN 4294967296 P (v.getD (K - 1) 0) (v.getD (K - 2) 0) vl (u.getD K 0 * 4294967296 + u.getD (K - 1) 0) (u.getD (K - 2) 0) ul q)
  (H : ∀ e : Int, q ≤ e → e ≤ q + 1 → e < 4294967296 → Evt (fun k => nat_step.j1 k u v K e) X) : ∀ (d : Nat) (e r : Int), 4294967296 - r ≤ d → 0 ≤ r → r < 8589934592 → q ≤ e → e ≤ 8589934592 →
  e * v.getD (K - 1) 0 + r = u.getD K 0 * 4294967296 + u.getD (K - 1) 0 → Evt (fun k => nat_step.l0 k u v K e r) X := by
 have hv1 := hv.getD (K - 1)
 have hv2 := hv.getD (K - 2)
 have hu0 := hu.getD K
 have hu1 := hu.getD (K - 1)
 have hu2 := hu.getD (K - 2)
 have hq0 := kn.q0
 have hq1 := kn.q1
 have hv1p := kn.hv1
 have done : ∀ e r : Int, 0 ≤ r → q ≤ e → e < 4294967296 → e * v.getD (K - 1) 0 + r = u.getD K 0 * 4294967296 + u.getD (K - 1) 0 → e * v.getD (K - 2) 0 ≤ r * 4294967296 + u.getD (K - 2) 0 → Evt (fun k => nat_step.j1 k u v K e) X :=
  fun e r hr hq he heq hle => H e hq (kn.stop (by omega) he heq hle) he
 -- once r has grown past the base, e is a digit
 have big : ∀ e r : Int, 4294967296 ≤ r → q ≤ e → e * v.getD (K - 1) 0 + r = u.getD K 0 * 4294967296 + u.getD (K - 1) 0 → Evt (fun k => nat_step.j1 k u v K e) X := by
  intro e r hr hq heq
  have htop : u.getD K 0 * 4294967296 + u.getD (K - 1) 0 < (v.getD (K - 1) 0 + 1) * 4294967296 := kn.top_lt
  have he : e < 4294967296 := by
   have : e * v.getD (K - 1) 0 < 4294967296 * v.getD (K - 1) 0 := by
    rw [Int.add_mul, Int.one_mul] at htop
    rw [Int.mul_comm 4294967296]
    omega
   exact Int.lt_of_mul_lt_mul_right this (by omega)
  refine done e r (by omega) hq he heq ?_
  have h1 : e * v.getD (K - 2) 0 ≤ 4294967295 * v.getD (K - 2) 0 := Int.mul_le_mul_of_nonneg_right (by omega) hv2.1
  omega
 intro d
 induction d with
 | zero =>
  intro e r hd hr hr2 hq he heq
  exact Evt.step (fun k => nat_step.l0.eq_2 ..) (Evt.neg (by omega) (big e r (by omega) hq heq))
 | succ d ih =>
  intro e r hd hr hr2 hq he heq
  refine Evt.step (fun k => nat_step.l0.eq_2 ..) ?_
  by_cases hb : r < 4294967296
  ·
   refine Evt.pos hb ?_
   have hnext : (e - 1) * v.getD (K - 1) 0 + (r + v.getD (K - 1) 0) = u.getD K 0 * 4294967296 + u.getD (K - 1) 0 := by
    rw [Int.sub_mul, Int.one_mul]; omega
   have e1 : wrap64 ((K : Int) - 1) = ((K - 1 : Nat) : Int) := by rw [w64 (by omega) (by omega)]; omega
   have e2 : wrap64 ((K : Int) - 2) = ((K - 2 : Nat) : Int) := by rw [w64 (by omega) (by omega)]; omega
   rw [e1, e2, rd_nat, rd_nat, rd_nat, wu64 hv1.1 (by omega), wu64 hv2.1 (by omega), wu64 hu2.1 (by omega)]
   clear e1 e2
   by_cases hbig : e ≥ 4294967296
   ·
    refine Evt.pos hbig (Evt.pos (by omega) (Evt.pos (by omega) ?_))
    rw [wu64p (by omega) (by omega), wu64 (by omega) (by omega)]
    exact ih (e - 1) _ (by omega) (by omega) (by omega) (by omega) (by omega) hnext
   ·
    refine Evt.neg hbig (Evt.pos (by omega) (Evt.pos (by omega) (Evt.pos (by omega) ?_)))
    have hm := mul_lim (a := e) (b := v.getD (K - 2) 0) (by omega) hv2
    rw [wu64 hm.1 (by omega), wu64 (x := r * 4294967296) (by omega) (by omega), or_limb (by omega) hu2]
    by_cases hdn : e * v.getD (K - 2) 0 > r * 4294967296 + u.getD (K - 2) 0
    ·
     have hqe := kn.down heq hdn
     refine Evt.pos hdn (Evt.pos (by omega) (Evt.pos (by omega) ?_))
     rw [wu64p (by omega) (by omega), wu64 (by omega) (by omega)]
     exact ih (e - 1) _ (by omega) (by omega) (by omega) hqe (by omega) hnext
    ·
     exact Evt.neg hdn (done e r hr hq (by omega) heq (by omega))
  ·
   exact Evt.neg hb (big e r (by omega) hq heq)
/-- a digit with a borrow, in 64 bits -/
theorem sub_digit {x p b z : Int} (hx : 0 ≤ x ∧ x < 4294967296) (hp : 0 ≤ p ∧ p < 4294967296) (hb : 0 ≤ b ∧ b ≤ 1) (hz : z = ((x - p) % 18446744073709551616 - b) % 18446744073709551616) :
  z % 4294967296 = x - p - b + z / 9223372036854775808 * 4294967296 ∧ 0 ≤ z / 9223372036854775808 ∧ z / 9223372036854775808 ≤ 1 ∧ (z / 9223372036854775808 = 0 ↔ 0 ≤ x - p - b) := by omega
theorem l2_ev (w0 v : List Int) (K : Nat) (e : Int) (n : Nat) (hv : Lim v) (hvl : v.length = K) (hKb : K ≤ 1000000000) (hw0 : w0.length = K + 1) (he : 1 ≤ e ∧ e < 4294967296)
  (hn : ∀ w : List Int, Lim w → w.length = K + 1 → (∃ t : Int, ev w 4294967296 = ev w0 4294967296 + ev v 4294967296 - t * 4294967296 ^ (K + 1)) → w = lims (K + 1) n) : ∀ (d i : Nat) (w : List Int) (c : Int),
  i + d = K → Lim w → w.length = K + 1 → 0 ≤ c → c ≤ 1 → AddInv w0 v w c i → Evt (fun k => nat_step.l2 k w v K e c (v.length : Int) i) (e - 1, lims (K + 1) n) := by
 intro d
 induction d with
 | zero =>
  intro i w c hi hw hl hc0 hc1 h
  have hiK : i = K := by omega
  subst hiK
  refine Evt.step (fun k => nat_step.l2.eq_2 ..) (Evt.neg (by omega) (Evt.pos (by omega) (Evt.pos (by omega) (Evt.now' ?_))))
  have hx := hw.getD i
  have e1 := h.2 i (Nat.le_refl _)
  rw [rd_nat, mod_limb (x := c) (by omega) (by omega), Int.toNat_natCast, wu64p he.1 (by omega), mod_limb (x := e - 1) (by omega) (by omega)]
  congr 1
  refine hn _ (hw.set _ (by omega) (by omega)) (by rw [List.length_set]; exact hl) ⟨(w.getD i 0 + c) / 4294967296, ?_⟩
  refine h.last hvl (by omega) ?_
  rw [← e1]
  have := Int.emod_add_mul_ediv (w.getD i 0 + c) 4294967296
  omega
 | succ d ih =>
  intro i w c hi hw hl hc0 hc1 h
  refine Evt.step (fun k => nat_step.l2.eq_2 ..) (Evt.pos (by omega) (Evt.pos (by omega) (Evt.pos (by omega) (Evt.pos (by omega) ?_))))
  have hx := hw.getD i
  have hy := hv.getD i
  have hs := h.step (by omega)
  rw [← h.2 i (Nat.le_refl _)] at hs
  rw [rd_nat, rd_nat, wsucc (by omega), Int.toNat_natCast, wu64 hx.1 (by omega), wu64 hy.1 (by omega), wu64 (x := w.getD i 0 + v.getD i 0) (by omega) (by omega), wu64 (x := w.getD i 0 + v.getD i 0 + c) (by omega) (by omega)]
  exact ih (i + 1) _ _ (by omega) (hw.set _ (by omega) (by omega)) (by rw [List.length_set]; exact hl) (by omega) (by omega) hs
theorem l1_ev (u v : List Int) (K : Nat) (e : Int) (U V : Nat) (hu : Is u U) (hv : Is v V) (hvl : v.length = K) (hul : u.length = K + 1) (hKb : K ≤ 1000000000) (he0 : 0 ≤ e) (heB : e < 4294967296)
  (hV : 0 < V) (heq : e = ((U / V : Nat) : Int) ∨ e = ((U / V : Nat) : Int) + 1) : ∀ (d i : Nat) (w : List Int) (c b : Int),
  i + d = K → Lim w → w.length = K + 1 → 0 ≤ c → c < 4294967296 → 0 ≤ b → b ≤ 1 → SubInv u v w e c b i →
  Evt (fun k => nat_step.l1 k w v K e b c (v.length : Int) i) (((U / V : Nat) : Int), lims (K + 1) (U % V)) := by
 have hVlt : V < 4294967296 ^ (K + 1) := by
  have := hv.lt
  rw [hvl] at this
  exact Nat.lt_of_lt_of_le this (Nat.pow_le_pow_right (by omega) (by omega))
 have hmod : U % V < 4294967296 ^ (K + 1) := Nat.lt_of_lt_of_le (Nat.mod_lt _ hV) (Nat.le_of_lt hVlt)
 have hdm : (U : Int) = ((U / V : Nat) : Int) * (V : Int) + ((U % V : Nat) : Int) := by
  rw [← Int.natCast_mul, ← Int.natCast_add, Int.ofNat_inj, Nat.mul_comm]; exact (Nat.div_add_mod U V).symm
 have hml := Nat.mod_lt U hV
 have hBK : (0 : Int) < 4294967296 ^ (K + 1) := Int.pow_pos (by omega)
 intro d
 induction d with
 | zero =>
  intro i w c b hi hw hl hc0 hc1 hb0 hb1 h
  have hiK : i = K := by omega
  subst hiK
  refine Evt.step (fun k => nat_step.l1.eq_2 ..) (Evt.neg (by omega) (Evt.pos (by omega) (Evt.pos (by omega) ?_)))
  have hx := hw.getD i
  rw [rd_nat, wu64 hx.1 (by omega), wu64_mod (w.getD i 0 - c), wu64_mod, Int.toNat_natCast]
  obtain ⟨z, hz⟩ : ∃ z, z = ((w.getD i 0 - c) % 18446744073709551616 - b) % 18446744073709551616 := ⟨_, rfl⟩
  rw [← hz]
  have hsd := sub_digit hx ⟨hc0, hc1⟩ ⟨hb0, hb1⟩ hz
  have hlim : Lim (w.set i (z % 4294967296)) := hw.set _ (by omega) (by omega)
  have hll : (w.set i (z % 4294967296)).length = i + 1 := by rw [List.length_set]; exact hl
  have hval := h.last (d := z % 4294967296) (t := z / 9223372036854775808) hvl (by omega) (by rw [← h.2 i (Nat.le_refl _)]; exact hsd.1)
  rw [hu.2, hv.2] at hval
  have hnn := hlim.nonneg
  have hlt := hlim.lt
  rw [hll] at hlt
  have hR0 : (0 : Int) ≤ ((U % V : Nat) : Int) := Int.natCast_nonneg _
  have hRV : ((U % V : Nat) : Int) < (V : Int) := Int.ofNat_lt.2 hml
  have hRP : ((U % V : Nat) : Int) < 4294967296 ^ (i + 1) := by
   have := Int.ofNat_lt.2 hmod
   rwa [Int.natCast_pow] at this
  have hq0 : (0 : Int) ≤ ((U / V : Nat) : Int) := Int.natCast_nonneg _
  refine Evt.bind (Evt.now _) ?_
  by_cases ht : z / 9223372036854775808 = 0
  ·
   rw [ht, Int.zero_mul, Int.add_zero] at hval
   obtain ⟨he, hD⟩ := fin0 hdm hRV hval hnn heq
   refine Evt.pos ht (Evt.now' ?_)
   rw [mod_limb he0 heB, he]
   congr 1
   have := eq_lims (n := U % V) ⟨hlim, hD⟩
   rw [hll] at this
   exact this
  ·
   have ht1 : z / 9223372036854775808 = 1 := by
    have a1 := hsd.2.1
    have a2 := hsd.2.2.1
    clear hsd hz hval hnn hlt hdm heq
    omega
   rw [ht1, Int.one_mul] at hval
   obtain ⟨he, hD⟩ := fin1 hdm hR0 hval hlt heq
   have hl2 := l2_ev (w.set i (z % 4294967296)) v i e (U % V) hv.1 hvl hKb hll ⟨by omega, heB⟩ (fun w' hw' hl' ⟨t, ht'⟩ => by
    rw [hv.2] at ht'
    have n1 := hw'.nonneg
    have n2 := hw'.lt
    rw [hl'] at n2
    have := eq_lims (n := U % V) ⟨hw', fin2 ht' hD n1 n2 hR0 hRP⟩
    rw [hl'] at this
    exact this) i 0 (w.set i (z % 4294967296)) 0 (by omega) hlim hll (by omega) (by omega) (AddInv.start ..)
   rw [show e - 1 = ((U / V : Nat) : Int) by omega] at hl2
   exact Evt.neg ht hl2
 | succ d ih =>
  intro i w c b hi hw hl hc0 hc1 hb0 hb1 h
  refine Evt.step (fun k => nat_step.l1.eq_2 ..) (Evt.pos (by omega) (Evt.pos (by omega) (Evt.pos (by omega) (Evt.pos (by omega) ?_))))
  have hx := hw.getD i
  have hy := hv.1.getD i
  have hm := mul_lim (a := e) (b := v.getD i 0) ⟨he0, heB⟩ hy
  rw [rd_nat, rd_nat, wsucc (by omega), Int.toNat_natCast, wu64 hy.1 (by omega), wu64 hm.1 (by omega), wu64 (x := e * v.getD i 0 + c) (by omega) (by omega), wu64 hx.1 (by omega), wu64_mod (w.getD i 0 - (e * v.getD i 0 + c) % 4294967296), wu64_mod]
  obtain ⟨p, hp⟩ : ∃ p, p = e * v.getD i 0 + c := ⟨_, rfl⟩
  have hs := fun d' b' hd => h.step (d := d') (b' := b') (by omega) hd
  rw [← h.2 i (Nat.le_refl _), ← hp] at hs
  rw [← hp]
  obtain ⟨z, hz⟩ : ∃ z, z = ((w.getD i 0 - p % 4294967296) % 18446744073709551616 - b) % 18446744073709551616 := ⟨_, rfl⟩
  rw [← hz]
  have hsd := sub_digit hx (p := p % 4294967296) (by omega) ⟨hb0, hb1⟩ hz
  have hs' := hs _ _ hsd.1
  have hp2 : p ≤ 18446744069414584320 := by omega
  clear hz hs
  exact ih (i + 1) _ _ _ (by omega) (hw.set _ (by omega) (by omega)) (by rw [List.length_set]; exact hl) (by omega) (by omega) (by omega) (by omega) hs'
/-- step: one digit of the quotient, and the rest in place -/
theorem step_ev (u v : List Int) (L U V : Nat) (hu : Is u U) (hv : Is v V) (hul : u.length = L + 3) (hvl : v.length = L + 2) (ht : 1 ≤ v.getD (L + 1) 0) (hV : 0 < V) (hlt : U < V * 4294967296) (hL : L ≤ 900000000) :
  Evt (fun k => nat_step.f k u v) (((U / V : Nat) : Int), lims (L + 3) (U % V)) := by
 have kn := kn_of hu hv hul hvl ht hV hlt
 have hv1 := hv.1.getD (L + 1)
 have hu0 := hu.1.getD (L + 2)
 have hu1 := hu.1.getD (L + 1)
 have htl := kn.top_lt
 have hks := kn.start
 unfold nat_step.f
 refine Evt.pos (by omega) (Evt.pos (by omega) ?_)
 rw [show (v.length : Int) = ((L + 2 : Nat) : Int) by rw [hvl], wpred (i := L + 1) (by omega), rd_nat, rd_nat, rd_nat]
 refine Evt.pos (by omega) (Evt.pos (by omega) (Evt.pos (by omega) ?_))
 rw [wu64 hv1.1 (by omega), wu64 hu0.1 (by omega), wu64 hu1.1 (by omega), wu64 (x := u.getD (L + 2) 0 * 4294967296) (by omega) (by omega), or_limb (by omega) hu1, tdivp (by omega), tmodp (by omega)]
 refine Evt.neg (by omega) ?_
 have hdm := Int.emod_add_mul_ediv (u.getD (L + 2) 0 * 4294967296 + u.getD (L + 1) 0) (v.getD (L + 1) 0)
 rw [Int.mul_comm (v.getD (L + 1) 0)] at hdm
 have hr0 := Int.emod_nonneg (u.getD (L + 2) 0 * 4294967296 + u.getD (L + 1) 0) (show v.getD (L + 1) 0 ≠ 0 by omega)
 have hr1 := Int.emod_lt_of_pos (u.getD (L + 2) 0 * 4294967296 + u.getD (L + 1) 0) (show 0 < v.getD (L + 1) 0 by omega)
 have he : (u.getD (L + 2) 0 * 4294967296 + u.getD (L + 1) 0) / v.getD (L + 1) 0 ≤ 8589934592 := by
  apply Int.le_of_lt
  apply Int.ediv_lt_of_lt_mul (by omega)
  rw [Int.add_mul, Int.one_mul] at htl
  omega
 have he0 : 0 ≤ (u.getD (L + 2) 0 * 4294967296 + u.getD (L + 1) 0) / v.getD (L + 1) 0 := Int.ediv_nonneg (by omega) (by omega)
 rw [wu64 (x := (u.getD (L + 2) 0 * 4294967296 + u.getD (L + 1) 0) / v.getD (L + 1) 0) he0 (by omega)]
 refine est_l0 u v (L + 2) _ _ _ _ _ hu.1 hv.1 (by omega) hvl hul (by omega) kn ?_ 4294967296 _ _ (by omega) hr0 (by omega) hks he (by
  show _ * v.getD (L + 1) 0 + _ = u.getD (L + 2) 0 * 4294967296 + u.getD (L + 1) 0
  omega)
 intro e hq1 hq2 heB
 refine Evt.step (fun k => nat_step.j1.eq_2 ..) ?_
 have hq0 := kn.q0
 exact l1_ev u v (L + 2) e U V hu hv hvl hul (by omega) (by omega) heB hV (by omega) (L + 2) 0 u 0 0 (by omega) hu.1 hul (by omega) (by omega) (by omega) (by omega) (SubInv.start u v e)
end Go.Proofs.Ytjignpnnmfdedaa.ChannelPatternsC
/- What the printed functions of package nat compute: Bits, Pow. -/
namespace Go.Proofs.Ytjignpnnmfdedaa.ChannelPatternsC
open Go.RowKit Go.Proofs.Ytjignpnnmfdedaa.PChannelPatterns Go.Proofs.YtjignpnnmfdedaaW.PrintWords Go.Proofs.YtjignpnnmfdedaaW.PrintLast Go.Proofs.YtjignpnnmfdedaaW.PrintMore Cw
theorem len_small : ∀ i : Fin 256, bits_Len32.f ((i.val : Nat) : Int) = some ((blen i.val : Nat) : Int) := by decide +kernel
theorem len_ev (n : Nat) (h : n < 4294967296) : bits_Len32.f (n : Int) = some ((blen n : Nat) : Int) := by
 have small : ∀ x : Nat, x < 256 → bits_Len32.f (x : Int) = some ((blen x : Nat) : Int) := fun x hx => len_small ⟨x, hx⟩
 have hb : ∀ (T : ByteArray) (i : Int) (c : Int), 0 ≤ c → c ≤ 100 → wrap64 (c + wrap64 (bt T i)) = c + bt T i := by
  intro T i c h0 h1
  have := bt_range T i
  rw [w64 (x := bt T i) (by omega) (by omega), w64 (by omega) (by omega)]
 by_cases h1 : n < 256
 ·
  exact small n h1
 by_cases h2 : n < 65536
 ·
  have key := small (n / 256) (by omega)
  have e : blen n = 8 + blen (n / 256) := by
   have := blen_shift (lo := n % 256) (hi := n / 256) (s := 8) (by omega) (by omega)
   rwa [show n % 256 + n / 256 * 2 ^ 8 = n by omega] at this
  unfold bits_Len32.f at key ⊢
  rw [if_neg (by omega), if_neg (by omega), if_pos (by omega), if_pos (by omega), hb _ _ _ (by omega) (by omega)] at key
  rw [if_neg (by omega), if_pos (by omega), if_pos (by omega), if_pos (by omega), hb _ _ _ (by omega) (by omega), e]
  rw [Int.natCast_ediv] at key
  have k2 := Option.some.inj key
  rw [Int.zero_add] at k2
  rw [show ((256 : Nat) : Int) = 256 by rfl] at k2
  rw [k2]; congr 1
 by_cases h3 : n < 16777216
 ·
  have key := small (n / 65536) (by omega)
  have e : blen n = 16 + blen (n / 65536) := by
   have := blen_shift (lo := n % 65536) (hi := n / 65536) (s := 16) (by omega) (by omega)
   rwa [show n % 65536 + n / 65536 * 2 ^ 16 = n by omega] at this
  unfold bits_Len32.f at key ⊢
  rw [if_neg (by omega), if_neg (by omega), if_pos (by omega), if_pos (by omega), hb _ _ _ (by omega) (by omega)] at key
  rw [if_pos (by omega), if_neg (by omega), if_pos (by omega), if_pos (by omega), hb _ _ _ (by omega) (by omega), e]
  rw [Int.natCast_ediv] at key
  have k2 := Option.some.inj key
  rw [Int.zero_add] at k2
  rw [show ((65536 : Nat) : Int) = 65536 by rfl] at k2
  rw [k2]; congr 1
 ·
  have key := small (n / 65536 / 256) (by omega)
  have e : blen n = 24 + blen (n / 65536 / 256) := by
   have := blen_shift (lo := n % 16777216) (hi := n / 65536 / 256) (s := 24) (by omega) (by omega)
   rwa [show n % 16777216 + n / 65536 / 256 * 2 ^ 24 = n by omega] at this
  unfold bits_Len32.f at key ⊢
  rw [if_neg (by omega), if_neg (by omega), if_pos (by omega), if_pos (by omega), hb _ _ _ (by omega) (by omega)] at key
  rw [if_pos (by omega), if_pos (by omega), if_pos (by omega), if_pos (by omega), hb _ _ _ (by omega) (by omega), e]
  rw [Int.natCast_ediv, Int.natCast_ediv] at key
  have k2 := Option.some.inj key
  rw [Int.zero_add] at k2
  rw [show ((65536 : Nat) : Int) = 65536 by rfl, show ((256 : Nat) : Int) = 256 by rfl] at k2
  rw [k2]; congr 1
theorem bits_ev {xs : List Int} {m : Nat} (hx : Is xs m) (hl : xs.length ≤ 1000000000) : Evt (fun k => nat_Bits.f k xs) ((blen m : Nat) : Int) := by
 unfold nat_Bits.f
 have hle := hx.enc_length
 refine Evt.bind (short_ev hx (by omega)) ?_
 by_cases h0 : m = 0
 ·
  refine Evt.pos (by rw [h0, enc_zero]; rfl) (Evt.now' ?_)
  rw [h0]; rfl
 ·
  obtain ⟨top, low, h1, h2, h3, h4, h5⟩ := enc_top h0
  have hp : 0 < (enc m).length := List.length_pos_iff.2 (enc_ne h0)
  have hb := blen_shift h4 (hi := top) (by omega)
  rw [← h5] at hb
  obtain ⟨L, hL⟩ : ∃ L, (enc m).length = L + 1 := ⟨(enc m).length - 1, by omega⟩
  rw [hL, Nat.add_sub_cancel] at h1 hb
  have hbl : blen top ≤ 32 := by
   have := blen_le (n := top) (by omega)
   have h6 : 2 ^ (blen top - 1) < 2 ^ 32 := by omega
   have := (Nat.pow_lt_pow_iff_right (by omega : 1 < 2)).1 h6
   omega
  rw [hL, wpred (by omega), rd_nat, h1]
  refine Evt.neg (by omega) (Evt.pos (by omega) (Evt.pos (by omega) (Evt.bind0 (len_ev top h3) (Evt.now' ?_))))
  rw [w64 (x := 32 * (L : Int)) (by omega) (by omega), w64 (by omega) (by omega), hb]
  omega
theorem BL (L : Nat) : (4294967296 : Nat) ^ L = 2 ^ (32 * L) := by rw [Nat.pow_mul]
theorem pow_l0 : ∀ (n : Nat) (o s : Nat) (L : Nat), L = 4096 → n < 9223372036854775808 → 0 < n → 0 < s → 0 < o → o * s ^ n < 4294967296 ^ L → Evt (fun k => nat_Pow.l0 k n (enc o) (enc s)) (enc (o * s ^ n), 0) := by
 intro n
 induction n using Nat.strongRecOn with
 | ind n ih =>
  intro o s L hL hn64 hn hs ho hb
  have hsn : s ≤ s ^ n := Nat.le_self_pow (by omega) s
  have hole : o ≤ o * s ^ n := Nat.le_mul_of_pos_right _ (Nat.pow_pos hs)
  have hsle : s ≤ o * s ^ n := Nat.le_trans hsn (Nat.le_mul_of_pos_left _ (by omega))
  have lo : (enc o).length ≤ L := enc_length_le _ (by omega)
  have ls : (enc s).length ≤ L := enc_length_le _ (by omega)
  have ltot : (enc (o * s ^ n)).length ≤ L := enc_length_le _ hb
  refine Evt.step (fun k => nat_Pow.l0.eq_2 ..) ?_
  rw [and_one (by omega) (by omega)]
  have hdiv : (n : Int) / 2 = ((n / 2 : Nat) : Int) := by omega
  rw [hdiv]
  by_cases hodd : n % 2 = 1
  ·
   refine Evt.pos (by omega) (Evt.bind (times_ev (enc_is o) (enc_is s) (by omega) (by omega)) ?_)
   by_cases h2 : n / 2 = 0
   ·
    have h1 : n = 1 := by omega
    subst h1
    rw [Nat.pow_one] at *
    exact Evt.pos (by omega) (Evt.neg (by omega) (Evt.bind (trim_ev (enc_is _) (by omega)) (Evt.now _)))
   ·
    refine Evt.neg (by omega) (Evt.bind (times_ev (enc_is s) (enc_is s) (by omega) (by omega)) ?_)
    have e : o * s * (s * s) ^ (n / 2) = o * s ^ n := by
     rw [← Nat.pow_two, ← Nat.pow_mul, Nat.mul_assoc, Nat.mul_comm s, ← Nat.pow_succ]
     congr 2; omega
    have := ih (n / 2) (by omega) (o * s) (s * s) L hL (by omega) (by omega) (Nat.mul_pos hs hs) (Nat.mul_pos ho hs) (by rw [e]; exact hb)
    rwa [e] at this
  ·
   refine Evt.neg (by omega) ?_
   by_cases h2 : n / 2 = 0
   ·
    omega
   ·
    refine Evt.neg (by omega) (Evt.bind (times_ev (enc_is s) (enc_is s) (by omega) (by omega)) ?_)
    have e : o * (s * s) ^ (n / 2) = o * s ^ n := by
     rw [← Nat.pow_two, ← Nat.pow_mul]
     congr 2; omega
    have := ih (n / 2) (by omega) o (s * s) L hL (by omega) (by omega) (Nat.mul_pos hs hs) ho (by rw [e]; exact hb)
    rwa [e] at this
theorem one_enc : ([1] : List Int) = enc 1 := by rw [enc_pos (by omega), Nat.div_eq_of_lt (by omega), enc_zero]; rfl
theorem pow_ev {a : List Int} {m : Nat} (ha : Is a m) (hl : a.length ≤ 1000000000) (e : Nat) (L : Nat) (hL : L = 4096) (he : e < 9223372036854775808) (h : m ≤ 1 ∨ m ^ e < 4294967296 ^ L) :
  Evt (fun k => nat_Pow.f k a e) (enc (m ^ e), 0) := by
 unfold nat_Pow.f
 refine Evt.neg (by omega) (Evt.bind (bits_ev ha hl) ?_)
 by_cases h0 : e = 0
 ·
  subst h0
  exact Evt.pos (by omega) (Evt.step (fun k => nat_Pow.j0.eq_2 ..) (Evt.pos rfl (Evt.now' (by rw [one_enc, Nat.pow_zero]))))
 refine Evt.neg (by omega) ?_
 by_cases h1 : m = 1
 ·
  subst h1
  exact Evt.step (fun k => nat_Pow.j0.eq_2 ..) (Evt.pos rfl (Evt.now' (by rw [one_enc, Nat.one_pow])))
 have hb1 : ¬ blen m = 1 := fun h => h1 ((blen_one_iff m).1 h)
 have hf : (((blen m : Nat) : Int) == 1) = false := by
  rw [beq_eq_false_iff_ne]; omega
 rw [hf]
 refine Evt.step (fun k => nat_Pow.j0.eq_2 ..) (Evt.neg (by simp) ?_)
 by_cases h2 : m = 0
 ·
  subst h2
  exact Evt.pos rfl (Evt.now' (by rw [Nat.zero_pow (by omega), enc_zero]))
 have hb : m ^ e < 4294967296 ^ L := by rcases h with h | h; omega; exact h
 have hb2 := hb
 rw [BL] at hb2
 have hm2 := blen_le h2
 have hmp := blen_pos h2
 have h3 : (blen m - 1) * e < 32 * L := by
  apply (Nat.pow_lt_pow_iff_right (by omega : 1 < 2)).1
  rw [Nat.pow_mul]
  exact Nat.lt_of_le_of_lt (Nat.pow_le_pow_left hm2 e) hb2
 have h4 : e < 131072 := by
  have : 1 * e ≤ (blen m - 1) * e := Nat.mul_le_mul_right _ (by omega)
  omega
 have h5 : 0 < blen m := hmp
 have hbl : blen m - 1 ≤ (blen m - 1) * e := Nat.le_mul_of_pos_right _ (by omega)
 refine Evt.neg (by omega) (Evt.neg (by omega) ?_)
 have e1 : wrap64 (wrap64 (((blen m : Nat) : Int) - 1) * (e : Int)) = (((blen m - 1) * e : Nat) : Int) := by
  rw [w64 (x := ((blen m : Nat) : Int) - 1) (by omega) (by omega), show ((blen m : Nat) : Int) - 1 = ((blen m - 1 : Nat) : Int) by omega, ← Int.natCast_mul, w64 (by omega) (by omega)]
 rw [e1]
 clear e1
 refine Evt.neg (by omega) (Evt.bind (short_ev ha (by omega)) ?_)
 rw [one_enc]
 have := pow_l0 e 1 m L hL he (by omega) (by omega) (by omega) (by rw [Nat.one_mul]; exact hb)
 rwa [Nat.one_mul] at this
end Go.Proofs.Ytjignpnnmfdedaa.ChannelPatternsC
/- What the printed functions of package nat compute: shift, long, DivMod. -/
namespace Go.Proofs.Ytjignpnnmfdedaa.ChannelPatternsC
open Go.RowKit Go.Proofs.Ytjignpnnmfdedaa.PChannelPatterns Go.Proofs.YtjignpnnmfdedaaW.PrintWords Go.Proofs.YtjignpnnmfdedaaW.PrintLast Go.Proofs.YtjignpnnmfdedaaW.PrintMore Cw
theorem two_pow_31 {s : Nat} (hs : s ≤ 31) : (1 : Int) ≤ 2 ^ s ∧ (2 : Int) ^ s ≤ 2147483648 := by
 have h : 2 ^ s ≤ 2 ^ 31 := Nat.pow_le_pow_right (by omega) hs
 have h0 := Int.ofNat_le.2 h
 have e : ((2 ^ s : Nat) : Int) = (2 : Int) ^ s := by rw [Int.natCast_pow]; rfl
 rw [e] at h0
 exact ⟨Int.pow_pos (by omega), h0⟩
theorem shl_or {x c : Int} {s : Nat} (hs : s ≤ 31) (hx : 0 ≤ x ∧ x < 4294967296) (hc : 0 ≤ c ∧ c < 2 ^ s) : Go.bits .or .u64 (shl .u64 x s) c = x * 2 ^ s + c := by
 have hM : (1 : Int) ≤ 2 ^ s ∧ (2 : Int) ^ s ≤ 2147483648 := two_pow_31 hs
 have h := sh_carry hx hM hc
 have e : shl .u64 x s = x * 2 ^ s := by
  unfold shl
  rw [Int.toNat_natCast, Nat.min_eq_left (by show s ≤ 64; omega)]
  exact wu64 h.1 (by omega)
 rw [e]
 exact bits_join .u64 64 (by decide) wraps_u64 s (x * 2 ^ s) c h.1 (Int.mul_emod_left ..) (by omega) hc.1 hc.2 (by omega)
theorem shift_l0 (a : List Int) (n s : Nat) (ha : Is a n) (hs : s ≤ 31) (hl : a.length ≤ 1000000000) : ∀ (d i : Nat) (out : List Int) (c : Int),
  i + d = a.length → Lim out → out.length = a.length + 1 → (∀ j, i ≤ j → out.getD j 0 = 0) → 0 ≤ c → c < 2 ^ s → ShInv a out (2 ^ s) c i →
  Evt (fun k => nat_shift.l0 k a s out c a (a.length : Int) (i : Int)) (lims (a.length + 1) (n * 2 ^ s)) := by
 have hM : (1 : Int) ≤ 2 ^ s ∧ (2 : Int) ^ s ≤ 2147483648 := two_pow_31 hs
 intro d
 induction d with
 | zero =>
  intro i out c hi hlim hlen hz hc0 hc1 he
  have h1 : i = a.length := by omega
  subst h1
  refine Evt.step (fun k => nat_shift.l0.eq_2 ..) (Evt.neg (by omega) (Evt.pos (by omega) (Evt.pos (by omega) (Evt.now' ?_))))
  rw [Int.toNat_natCast, mod_limb hc0 (by omega)]
  have hv := he.last (Nat.le_refl _) (by omega) (hz _ (Nat.le_refl _))
  rw [ha.2] at hv
  have := eq_lims (n := n * 2 ^ s) (xs := out.set a.length c) ⟨hlim.set _ hc0 (by omega), by rw [hv, Int.natCast_mul, Int.natCast_pow, Int.mul_comm]; rfl⟩
  rw [List.length_set, hlen] at this
  exact this
 | succ d ih =>
  intro i out c hi hlim hlen hz hc0 hc1 he
  refine Evt.step (fun k => nat_shift.l0.eq_2 ..) (Evt.pos (by omega) (Evt.pos (by omega) (Evt.pos (by omega) (Evt.pos (by omega) (Evt.pos (by omega) ?_)))))
  have hai := ha.1.getD i
  have hn := he.step (by omega) (hz i (Nat.le_refl _))
  have hcc := sh_carry hai hM ⟨hc0, hc1⟩
  rw [wsucc (by omega), rd_nat, Int.toNat_natCast, wu64 hai.1 (by omega), shl_or hs hai ⟨hc0, hc1⟩]
  exact ih (i + 1) _ _ (by omega) (hlim.set _ (by omega) (by omega)) (by rw [List.length_set]; omega) (fun j hj => by rw [lset_ne _ _ _ _ (by omega)]; exact hz j (by omega)) hcc.2.2.1 hcc.2.2.2 hn
theorem shift_ev (a : List Int) (n s : Nat) (ha : Is a n) (hs : s ≤ 31) (hl : a.length ≤ 1000000000) : Evt (fun k => nat_shift.f k a s) (lims (a.length + 1) (n * 2 ^ s)) := by
 unfold nat_shift.f
 rw [wsucc (by omega)]
 refine Evt.pos (by omega) (Evt.pos (by omega) ?_)
 rw [Int.toNat_natCast]
 exact shift_l0 a n s ha hs hl a.length 0 _ 0 (by omega) (Lim.zeros _) (by simp) (fun j _ => lzeros_getD _ _) (by omega) (Int.pow_pos (by omega)) (ShInv.start ..)
theorem lz_ev (n : Nat) (h : n < 4294967296) : bits_LeadingZeros32.f (n : Int) = some ((32 - blen n : Nat) : Int) := by
 have hb := blen_le_32 h
 unfold bits_LeadingZeros32.f
 rw [len_ev n h, Option.bind_some, show (32 : Int) = ((32 : Nat) : Int) from rfl, wsub (by omega) hb]
theorem or_comm_u64 (x y : Int) : Go.bits .or .u64 x y = Go.bits .or .u64 y x := by
 unfold Go.bits
 dsimp only
 rw [BitVec.or_comm]
end Go.Proofs.Ytjignpnnmfdedaa.ChannelPatternsC
/- What the printed function Cmp of nat computes. -/
namespace Go.Proofs.Ytjignpnnmfdedaa.ChannelPatternsC
open Go.RowKit Go.Proofs.Ytjignpnnmfdedaa.PChannelPatterns Go.Proofs.YtjignpnnmfdedaaW.PrintWords Go.Proofs.YtjignpnnmfdedaaW.PrintLast Go.Proofs.YtjignpnnmfdedaaW.PrintMore Cw
theorem cmp_l0 (a b : List Int) (m n : Nat) (ha : Is a m) (hb : Is b n) (hab : a.length = b.length) (hl : a.length ≤ 1000000000) : ∀ i : Nat, i ≤ a.length → TopEq a b i →
  Evt (fun k => nat_Cmp.l0 k a b ((i : Int) - 1)) (cmpN m n) := by
 intro i
 induction i with
 | zero =>
  intro _ h
  have e := h.zero
  rw [ha.2, hb.2] at e
  have : m = n := by omega
  subst this
  rw [cmpN_eq]
  exact Evt.step (fun k => nat_Cmp.l0.eq_2 ..) (Evt.neg (by omega) (Evt.now _))
 | succ i ih =>
  intro hi h
  refine Evt.step (fun k => nat_Cmp.l0.eq_2 ..) ?_
  rw [show (((i + 1 : Nat) : Int) - 1) = (i : Int) by omega, wpred2 (by omega)]
  refine Evt.pos (by omega) (Evt.pos (by omega) (Evt.pos (by omega) (Evt.pos (by omega) ?_)))
  rw [rd_nat, rd_nat]
  by_cases h1 : a.getD i 0 < b.getD i 0
  ·
   have e := h.lt ha.1 hb.1 h1
   rw [ha.2, hb.2] at e
   exact Evt.pos h1 (Evt.now' (cmpN_lt (by omega)).symm)
  by_cases h2 : a.getD i 0 > b.getD i 0
  ·
   have e := h.symm.lt hb.1 ha.1 h2
   rw [ha.2, hb.2] at e
   exact Evt.neg h1 (Evt.pos h2 (Evt.now' (cmpN_gt (by omega)).symm))
  ·
   exact Evt.neg h1 (Evt.neg h2 (ih (by omega) (h.step (by omega))))
theorem cmp_ev {a b : List Int} {m n : Nat} (ha : Is a m) (hb : Is b n) (hla : a.length ≤ 1000000000) (hlb : b.length ≤ 1000000000) : Evt (fun k => nat_Cmp.f k a b) (cmpN m n) := by
 unfold nat_Cmp.f
 have h1 := ha.enc_length
 have h2 := hb.enc_length
 refine Evt.bind (short_ev ha (by omega)) (Evt.bind (short_ev hb (by omega)) ?_)
 by_cases h : (enc m).length = (enc n).length
 ·
  rw [wpred2 (by omega)]
  exact Evt.pos (by omega) (cmp_l0 _ _ m n (enc_is m) (enc_is n) h (by omega) _ (Nat.le_refl _) (TopEq.start (by omega) (by omega)))
 ·
  refine Evt.neg (by omega) ?_
  by_cases h3 : (enc m).length < (enc n).length
  ·
   exact Evt.pos (by omega) (Evt.now' (cmpN_lt (enc_length_mono h3)).symm)
  ·
   exact Evt.neg (by omega) (Evt.now' (cmpN_gt (enc_length_mono (by omega))).symm)
end Go.Proofs.Ytjignpnnmfdedaa.ChannelPatternsC
/- What the printed functions of package nat compute: long, DivMod. -/
namespace Go.Proofs.Ytjignpnnmfdedaa.ChannelPatternsC
open Go.RowKit Go.Proofs.Ytjignpnnmfdedaa.PChannelPatterns Go.Proofs.YtjignpnnmfdedaaW.PrintWords Go.Proofs.YtjignpnnmfdedaaW.PrintLast Go.Proofs.YtjignpnnmfdedaaW.PrintMore Cw
/-- one limb of the rest, shifted back -/
theorem back_one (x : List Int) (m s i : Nat) (hx : Is x m) (hs : s ≤ 31) (hi : i + 1 < x.length) :
  shr .u64 (Go.bits .or .u64 (x.getD i 0) (x.getD (i + 1) 0 * 4294967296)) (s : Int) % 4294967296 = ((m / 2 ^ s / 4294967296 ^ i % 4294967296 : Nat) : Int) := by
 have e1 : x.getD i 0 = ((m / 4294967296 ^ i % 4294967296 : Nat) : Int) := by
  rw [eq_lims hx, lims_getD _ _ _ (by omega)]
 have e2 : x.getD (i + 1) 0 = ((m / 4294967296 ^ (i + 1) % 4294967296 : Nat) : Int) := by
  rw [eq_lims hx, lims_getD _ _ _ (by omega)]
 rw [or_comm_u64, or_limb (hx.1.getD _) (hx.1.getD _), e1, e2]
 have e3 : m / 4294967296 ^ (i + 1) = m / 4294967296 ^ i / 4294967296 := by rw [Nat.pow_succ, Nat.div_div_eq_div_mul]
 have e4 : m / 2 ^ s / 4294967296 ^ i = m / 4294967296 ^ i / 2 ^ s := by rw [Nat.div_div_eq_div_mul, Nat.div_div_eq_div_mul, Nat.mul_comm]
 rw [e3, e4, ← back_limb _ _ hs]
 generalize m / 4294967296 ^ i = M
 have e5 : shr .u64 (((M / 4294967296 % 4294967296 : Nat) : Int) * 4294967296 + ((M % 4294967296 : Nat) : Int)) (s : Int) = (((M % 4294967296 + M / 4294967296 % 4294967296 * 4294967296) / 2 ^ s : Nat) : Int) := by
  unfold shr
  rw [Int.toNat_natCast, Nat.min_eq_left (by show s ≤ 64; omega), Int.natCast_ediv, Int.natCast_pow, Int.natCast_add, Int.natCast_mul, Int.add_comm]
  rfl
 rw [e5, Int.natCast_emod]
 rfl
theorem long_l1 (x4 x8 : List Int) (m s K : Nat) (hx : Is x8 m) (hs : s ≤ 31) (hK : K + 1 ≤ x8.length) (hl : x8.length ≤ 1000000000) : ∀ (d i : Nat) (out : List Int),
  i + d = K → out.length = K → (∀ j, j < i → out.getD j 0 = (lims K (m / 2 ^ s)).getD j 0) →
  Evt (fun k => nat_long.l1 k x4 out s x8 K i) (x4, lims K (m / 2 ^ s)) := by
 intro d
 induction d with
 | zero =>
  intro i out hi hlen h
  have : out = lims K (m / 2 ^ s) := ext_getD (by rw [lims_length]; exact hlen) (fun j hj => h j (by omega))
  exact Evt.step (fun k => nat_long.l1.eq_2 ..) (Evt.neg (by omega) (Evt.now' (by rw [this])))
 | succ d ih =>
  intro i out hi hlen h
  have hx1 := hx.1.getD i
  have hx2 := hx.1.getD (i + 1)
  refine Evt.step (fun k => nat_long.l1.eq_2 ..) ?_
  rw [wsucc (by omega)]
  refine Evt.pos (by omega) (Evt.pos (by omega) (Evt.pos (by omega) (Evt.pos (by omega) (Evt.pos (by omega) (Evt.pos (by omega) (Evt.pos (by omega) ?_))))))
  rw [rd_nat, rd_nat, wu64 hx1.1 (by omega), wu64 hx2.1 (by omega), wu64 (x := x8.getD (i + 1) 0 * 4294967296) (by omega) (by omega), Int.toNat_natCast, back_one x8 m s i hx hs (by omega)]
  refine ih (i + 1) _ (by omega) (by rw [List.length_set]; exact hlen) (fun j hj => ?_)
  by_cases hji : j = i
  ·
   rw [hji, lset_self _ _ _ (by omega), lims_getD _ _ _ (by omega)]
  ·
   rw [lset_ne _ _ _ _ (by omega)]; exact h j (by omega)
theorem long_l0 (v : List Int) (L s U V J : Nat) (hv : Is v V) (hvl : v.length = L + 2) (ht : 1 ≤ v.getD (L + 1) 0) (hV0 : 0 < V) (hs : s ≤ 31) (hL : L ≤ 400000000) (hJ : J ≤ 400000000) (hJ1 : 1 ≤ J) : ∀ (t : Nat) (x4 x8 : List Int),
  x4.length = J → x8.length = J + (L + 2) → t ≤ J → LongInv x4 x8 U V t → (∀ i, i < t → x4.getD i 0 = 0) →
  Evt (fun k => nat_long.l0 k x4 s v x8 ((L + 2 : Nat) : Int) ((t : Int) - 1)) (lims J (U / V), lims (L + 2) (U % V / 2 ^ s)) := by
 intro t
 induction t with
 | zero =>
  intro x4 x8 h4 h8 _ h _
  obtain ⟨i4, i8⟩ := h.last
  refine Evt.step (fun k => nat_long.l0.eq_2 ..) (Evt.neg (by omega) (Evt.pos (by omega) (Evt.pos (by omega) ?_)))
  have e := eq_lims i4
  rw [h4] at e
  have := long_l1 x4 x8 (U % V) s (L + 2) i8 hs (by omega) (by omega) (L + 2) 0 (List.replicate (L + 2) 0) (by omega) (by simp) (fun j hj => by omega)
  rw [← e, Int.toNat_natCast]
  refine Evt.bind0 (f := fun k y187 => nat_long.l1 k x4 y187 s x8 (y187.length : Int) 0) rfl ?_
  rw [List.length_replicate]
  exact this
 | succ t ih =>
  intro x4 x8 h4 h8 htJ h hz
  have hVK := hv.lt
  rw [hvl] at hVK
  obtain ⟨W, hW, hlt, he, hhi, h0, h1⟩ := h.win hVK (by omega)
  have hn := h.step hV0 hVK (by omega) (by omega) (hz t (by omega)) hlt he hhi h0 h1
  have hwl := win_length x8 t (L + 2) (by omega)
  have hpl := put_length x8 (lims (L + 2 + 1) (W % V)) t (L + 2) (by omega) (lims_length _ _)
  refine Evt.step (fun k => nat_long.l0.eq_2 ..) ?_
  rw [show (((t + 1 : Nat) : Int) - 1) = (t : Int) by omega, wadd (by omega), wsucc (by omega), wpred2 (by omega)]
  refine Evt.pos (by omega) (Evt.pos (by omega) (Evt.pos (by omega) (Evt.pos (by omega) ?_)))
  rw [Int.toNat_natCast, Int.toNat_natCast]
  refine Evt.bind (step_ev _ v L W V hW hv hwl hvl ht hV0 hlt (by omega)) (Evt.pos (by omega) ?_)
  exact ih _ _ (by rw [List.length_set]; exact h4) (hpl.trans h8) (by omega) hn (fun i hi => by rw [lset_ne _ _ _ _ (by omega)]; exact hz i (by omega))
theorem long_ev (m n : Nat) (hmn : n ≤ m) (hn2 : 2 ≤ (enc n).length) (hl : (enc m).length ≤ 100000000) :
  Evt (fun k => nat_long.f k (enc m) (enc n)) (lims ((enc m).length + 1 - (enc n).length) (m / n), lims (enc n).length (m % n)) := by
 obtain ⟨L, hL⟩ : ∃ L, (enc n).length = L + 2 := ⟨(enc n).length - 2, by omega⟩
 have hn0 : n ≠ 0 := fun h => by rw [h, enc_zero] at hn2; simp at hn2
 obtain ⟨top, low, t1, t2, t3, t4, t5⟩ := enc_top hn0
 have hle : (enc n).length ≤ (enc m).length := enc_length_le _ (Nat.lt_of_le_of_lt hmn (lt_of_enc_length (Nat.le_refl _)))
 have hb32 := blen_le_32 t3
 have hbp := blen_pos (n := top) (by omega)
 obtain ⟨s, hs⟩ : ∃ s, s + blen top = 32 := ⟨32 - blen top, by omega⟩
 rw [hL] at t1 t4 t5
 have hnt := norm_top (b := blen top) rfl hs t2 t4 t5
 rw [show L + 2 - 1 = L + 1 by omega] at *
 have ht1 : (enc n).getD (L + 1) 0 = (top : Int) := t1
 have eL : 2 ^ (32 * (L + 1)) * 4294967296 = 4294967296 ^ (L + 2) := by
  rw [Nat.pow_mul, show (2 : Nat) ^ 32 = 4294967296 by rfl, ← Nat.pow_succ]
 have hVlen1 : (enc (n * 2 ^ s)).length ≤ L + 2 := enc_length_le _ (by rw [← eL]; exact hnt.2)
 have hVlen2 : L + 1 < (enc (n * 2 ^ s)).length := by
  rcases Nat.lt_or_ge (L + 1) (enc (n * 2 ^ s)).length with h | h
  ·
   exact h
  ·
   exfalso
   have := lt_of_enc_length h
   rw [show (4294967296 : Nat) = 2 ^ 32 by rfl, ← Nat.pow_mul] at this
   have h2 : 2 ^ (32 * (L + 1)) * 1 ≤ 2 ^ (32 * (L + 1)) * 2 ^ 31 := Nat.mul_le_mul_left _ (by omega)
   omega
 have hVl : (enc (n * 2 ^ s)).length = L + 2 := by omega
 have hV0 : n * 2 ^ s ≠ 0 := Nat.mul_ne_zero hn0 (by have := Nat.two_pow_pos s; omega)
 obtain ⟨top', low', u1, u2, _, _, _⟩ := enc_top hV0
 rw [hVl] at u1
 have htop : 1 ≤ (enc (n * 2 ^ s)).getD (L + 1) 0 := by
  have : (enc (n * 2 ^ s)).getD (L + 1) 0 = (top' : Int) := u1
  omega
 unfold nat_long.f
 have hw1 : wrap64 (((enc n).length : Int) - 1) = ((L + 1 : Nat) : Int) := by rw [hL, w64 (by omega) (by omega)]; omega
 rw [hw1]
 refine Evt.pos (by omega) (Evt.pos (by omega) ?_)
 rw [rd_nat, ht1]
 have hlz := lz_ev top t3
 rw [show 32 - blen top = s by omega] at hlz
 refine Evt.bind0 hlz (Evt.bind (shift_ev (enc n) n s (enc_is n) (by omega) (by omega)) ?_)
 have hvis : Is (lims ((enc n).length + 1) (n * 2 ^ s)) (n * 2 ^ s) := lims_is (by
  rw [hL, Nat.pow_succ]
  rw [eL] at hnt
  omega)
 refine Evt.bind (short_ev hvis (by rw [lims_length]; omega)) (Evt.bind (shift_ev (enc m) m s (enc_is m) (by omega) (by omega)) ?_)
 have hw2 : wrap64 (((lims ((enc m).length + 1) (m * 2 ^ s)).length : Int) - ((enc (n * 2 ^ s)).length : Int)) = (((enc m).length + 1 - (enc n).length : Nat) : Int) := by
  rw [lims_length, hVl, hL, wsub (by omega) (by omega)]
 rw [hw2]
 obtain ⟨J, hJ⟩ : ∃ J, J = (enc m).length + 1 - (enc n).length := ⟨_, rfl⟩
 rw [← hJ]
 refine Evt.pos (by omega) (Evt.pos (by omega) ?_)
 rw [Int.toNat_natCast, hVl, wpred2 (by omega)]
 have hmlt : m < 4294967296 ^ (enc m).length := lt_of_enc_length (Nat.le_refl _)
 have hp31 : 2 ^ s ≤ 2 ^ 31 := Nat.pow_le_pow_right (by omega) (by omega)
 have hps : 0 < 2 ^ s := Nat.two_pow_pos s
 have huis : Is (lims ((enc m).length + 1) (m * 2 ^ s)) (m * 2 ^ s) := lims_is (by
  rw [Nat.pow_succ]
  exact Nat.mul_lt_mul'' hmlt (by omega))
 have hstart : m * 2 ^ s < n * 2 ^ s * 4294967296 ^ J := by
  have a1 : m * 2 ^ s < 4294967296 ^ (enc m).length * 2 ^ 31 := Nat.mul_lt_mul_of_lt_of_le hmlt hp31 (by omega)
  have a2 : 2 ^ (32 * (L + 1)) * 2 ^ 31 * 4294967296 ^ J ≤ n * 2 ^ s * 4294967296 ^ J := Nat.mul_le_mul_right _ hnt.1
  have a3 : 2 ^ (32 * (L + 1)) * 2 ^ 31 * 4294967296 ^ J = 4294967296 ^ (enc m).length * 2 ^ 31 := by
   rw [Nat.pow_mul, show (2 : Nat) ^ 32 = 4294967296 by rfl, Nat.mul_right_comm, ← Nat.pow_add, show L + 1 + J = (enc m).length by omega]
  omega
 have := long_l0 (enc (n * 2 ^ s)) L s (m * 2 ^ s) (n * 2 ^ s) J (enc_is _) hVl htop (by omega) (by omega) (by omega) (by omega) (by omega) J (List.replicate J 0) (lims ((enc m).length + 1) (m * 2 ^ s)) (by simp) (by rw [lims_length]; omega) (Nat.le_refl _)
  ⟨Lim.zeros _, lims_lim _ _, by rw [ev_replicate_zero, huis.2]; omega, by
   rw [huis.2]
   have := Int.ofNat_lt.2 hstart
   rw [Int.natCast_mul, Int.natCast_pow] at this
   exact this⟩ (fun i _ => lzeros_getD _ _)
 rw [Nat.mul_div_mul_right _ _ hps, Nat.mul_mod_mul_right, Nat.mul_div_cancel _ hps] at this
 rw [hL]
 exact this
theorem divmod_ev {a b : List Int} {m n : Nat} (ha : Is a m) (hb : Is b n) (hn : n ≠ 0) (hla : a.length ≤ 100000000) (hlb : b.length ≤ 100000000) :
  Evt (fun k => nat_DivMod.f k a b) (enc (m / n), enc (m % n), 0) := by
 unfold nat_DivMod.f
 have h1 := ha.enc_length
 have h2 := hb.enc_length
 refine Evt.bind (short_ev ha (by omega)) (Evt.bind (short_ev hb (by omega)) (Evt.neg ?_ ?_))
 ·
  intro h; exact enc_ne hn (List.length_eq_zero_iff.1 (by omega))
 refine Evt.bind (cmp_ev (enc_is m) (enc_is n) (by omega) (by omega)) ?_
 by_cases hlt : m < n
 ·
  refine Evt.pos (cmpN_neg.2 hlt) (Evt.bind (trim_ev (enc_is m) (by omega)) (Evt.now' ?_))
  rw [Nat.div_eq_of_lt hlt, Nat.mod_eq_of_lt hlt, enc_zero]
 ·
  refine Evt.neg (fun h => hlt (cmpN_neg.1 h)) ?_
  by_cases hone : (enc n).length = 1
  ·
   have hn1 : n < 4294967296 := by
    have := lt_of_enc_length (n := n) (L := 1) (by omega)
    simpa using this
   have hr0 : rd (enc n) 0 = (n : Int) := by
    rw [enc_pos hn]
    show ((n % 4294967296 : Nat) : Int) = n
    rw [Nat.mod_eq_of_lt hn1]
   refine Evt.pos (by omega) (Evt.pos (by omega) ?_)
   rw [hr0]
   refine Evt.bind (digit_ev (enc_is m) (by omega) hn1 (by omega)) ?_
   have hmod : m % n < n := Nat.mod_lt _ (by omega)
   rw [wu64n (by omega)]
   exact Evt.bind (of_ev _ (by omega)) (Evt.now _)
  ·
   have hpos : 0 < (enc n).length := List.length_pos_iff.2 (enc_ne hn)
   refine Evt.neg (by omega) (Evt.bind (long_ev m n (by omega) (by omega) (by omega)) ?_)
   have hq : m / n < 4294967296 ^ ((enc m).length + 1 - (enc n).length) := by
    obtain ⟨top, low, t1, t2, t3, t4, t5⟩ := enc_top hn
    have hge : 4294967296 ^ ((enc n).length - 1) ≤ n := by
     rw [show (4294967296 : Nat) = 2 ^ 32 by rfl, ← Nat.pow_mul]
     have : 1 * 2 ^ (32 * ((enc n).length - 1)) ≤ top * 2 ^ (32 * ((enc n).length - 1)) := Nat.mul_le_mul_right _ t2
     omega
    have hm : m < 4294967296 ^ (enc m).length := lt_of_enc_length (Nat.le_refl _)
    have hle : (enc n).length ≤ (enc m).length := enc_length_le _ (Nat.lt_of_le_of_lt (by omega) hm)
    refine Nat.div_lt_of_lt_mul ?_
    refine Nat.lt_of_lt_of_le hm ?_
    rw [show 4294967296 ^ (enc m).length = 4294967296 ^ ((enc n).length - 1) * 4294967296 ^ ((enc m).length + 1 - (enc n).length) by rw [← Nat.pow_add]; congr 1; omega]
    exact Nat.mul_le_mul_right _ hge
   have hr : m % n < 4294967296 ^ (enc n).length := Nat.lt_trans (Nat.mod_lt _ (by omega)) (lt_of_enc_length (Nat.le_refl _))
   exact Evt.bind (trim_ev (lims_is hq) (by rw [lims_length]; omega)) (Evt.bind (trim_ev (lims_is hr) (by rw [lims_length]; omega)) (Evt.now _))
end Go.Proofs.Ytjignpnnmfdedaa.ChannelPatternsC
/- What the printed reference functions on numbers compute: Trim, Same, limb, Add, Mul, Of, small, Choose, Bits, Pow. -/
namespace Go.Proofs.Ytjignpnnmfdedaa.ChannelPatternsC
open Go.RowKit Go.Proofs.Ytjignpnnmfdedaa.PChannelPatterns Go.Proofs.YtjignpnnmfdedaaW.PrintWords Go.Proofs.YtjignpnnmfdedaaW.PrintLast Go.Proofs.YtjignpnnmfdedaaW.PrintMore Cw
theorem rtrim_l0 (xs : List Int) (n : Nat) (hx : Is xs n) (hl : xs.length ≤ 35184372088831) : ∀ m : Nat, m ≤ xs.length → (∀ i, m ≤ i → i < xs.length → xs.getD i 0 = 0) →
  Evt (fun k => codewrightref01_Trim.l0 k xs m) (enc n) := by
 intro m
 induction m with
 | zero =>
  intro hm h
  refine Evt.step (fun k => codewrightref01_Trim.l0.eq_2 ..) (Evt.neg (by omega) (Evt.bind (Evt.now _) (Evt.pos (by omega) (Evt.pos (by omega) (Evt.pos (by simp) (Evt.now' ?_))))))
  exact take_eq_enc hx 0 hm h (.inl rfl)
 | succ m ih =>
  intro hm h
  refine Evt.step (fun k => codewrightref01_Trim.l0.eq_2 ..) ?_
  rw [wpred (by omega)]
  refine Evt.pos (by omega) (Evt.pos (by omega) (Evt.pos (by omega) ?_))
  by_cases hz : rd xs (m : Int) = 0
  ·
   refine Evt.pos hz (ih (by omega) fun i h1 h2 => ?_)
   by_cases hi : i = m
   ·
    rw [hi]; exact hz
   ·
    exact h i (by omega) h2
  ·
   refine Evt.neg hz (Evt.bind (Evt.now _) (Evt.pos (by omega) (Evt.pos (by omega) (Evt.pos (by simp; omega) (Evt.now' ?_)))))
   rw [List.nil_append]
   exact take_eq_enc hx (m + 1) hm h (.inr hz)
theorem rtrim_ev {xs : List Int} {n : Nat} (hx : Is xs n) (hl : xs.length ≤ 35184372088831) : Evt (fun k => codewrightref01_Trim.f k xs) (enc n) :=
 rtrim_l0 xs n hx hl xs.length (Nat.le_refl _) (fun i h1 h2 => by omega)
theorem rsame_l0 (xs : List Int) (hl : xs.length ≤ 35184372088831) : ∀ (d i : Nat), i + d = xs.length → Evt (fun k => codewrightref01_Same.l0 k xs xs i) true := by
 intro d
 induction d with
 | zero => intro i hi; exact Evt.step (fun k => codewrightref01_Same.l0.eq_2 ..) (Evt.neg (by omega) (Evt.now _))
 | succ d ih =>
  intro i hi
  refine Evt.step (fun k => codewrightref01_Same.l0.eq_2 ..) (Evt.pos (by omega) (Evt.pos (by omega) (Evt.pos (by omega) (Evt.pos rfl ?_))))
  rw [wsucc (by omega)]
  exact ih (i + 1) (by omega)
theorem rsame_ev (xs : List Int) (hl : xs.length ≤ 35184372088831) : Evt (fun k => codewrightref01_Same.f k xs xs) true := by
 unfold codewrightref01_Same.f
 exact Evt.pos rfl (rsame_l0 xs hl xs.length 0 (by omega))
theorem rlimb_eq (xs : List Int) (hx : Lim xs) (i : Nat) : codewrightref01_limb.f xs i = some (xs.getD i 0) := by
 unfold codewrightref01_limb.f
 have := hx.getD i
 by_cases h : i < xs.length
 ·
  rw [if_pos (by omega), if_pos (by omega), rd_nat, wu64 this.1 (by omega)]
 ·
  rw [if_neg (by omega), getD_none' xs i (by omega)]
theorem radd_l0 (a b : List Int) (m n : Nat) (ha : Is a m) (hb : Is b n) (hla : a.length ≤ 1000000000) (hlb : b.length ≤ 1000000000) : ∀ (d i : Nat) (out : List Int) (c : Int),
  (max a.length b.length) + 1 - i ≤ d → i ≤ max a.length b.length + 1 → Lim out → out.length = i → 0 ≤ c → c ≤ 1 → (i = max a.length b.length + 1 → c = 0) →
  ev out 4294967296 + c * 4294967296 ^ i = ev (a.take i) 4294967296 + ev (b.take i) 4294967296 →
  Evt (fun k => codewrightref01_Add.l0 k a b out c (i : Int)) (enc (m + n)) := by
 intro d
 have fin : ∀ (i : Nat) (out : List Int) (c : Int), a.length ≤ i → b.length ≤ i → i ≤ max a.length b.length + 1 → Lim out → out.length = i → c = 0 →
   ev out 4294967296 + c * 4294967296 ^ i = ev (a.take i) 4294967296 + ev (b.take i) 4294967296 →
   Evt (fun k => codewrightref01_Add.l0 k a b out c (i : Int)) (enc (m + n)) := by
  intro i out c h1 h2 h3 hlim hlen hc he
  rw [List.take_of_length_le h1, List.take_of_length_le h2, ha.2, hb.2, hc] at he
  subst hc
  refine Evt.step (fun k => codewrightref01_Add.l0.eq_2 ..) (Evt.neg (by omega) (Evt.neg (by omega) ?_))
  rw [decide_eq_false (by omega : ¬ (0 : Int) > 0)]
  refine Evt.step (fun k => codewrightref01_Add.j1.eq_2 ..) (Evt.neg (by simp) (Evt.bind (rtrim_ev ⟨hlim, ?_⟩ (by omega)) (Evt.now _)))
  simp only [Int.zero_mul, Int.add_zero] at he
  rw [he]; omega
 induction d with
 | zero =>
  intro i out c hd hi hlim hlen hc0 hc1 hcz he
  exact fin i out c (by omega) (by omega) hi hlim hlen (hcz (by omega)) he
 | succ d ih =>
  intro i out c hd hi hlim hlen hc0 hc1 hcz he
  by_cases hlast : a.length ≤ i ∧ b.length ≤ i ∧ c = 0
  ·
   exact fin i out c hlast.1 hlast.2.1 hi hlim hlen hlast.2.2 he
  ·
   have hi2 : i < max a.length b.length + 1 := by omega
   have hx := ha.1.getD i
   have hy := hb.1.getD i
   suffices H : Evt (fun k => codewrightref01_Add.j1 k a b out c (i : Int) true) (enc (m + n)) by
    refine Evt.step (fun k => codewrightref01_Add.l0.eq_2 ..) ?_
    by_cases h1 : i < a.length
    ·
     exact Evt.pos (by omega) H
    ·
     refine Evt.neg (by omega) ?_
     by_cases h2 : i < b.length
     ·
      exact Evt.pos (by omega) H
     ·
      refine Evt.neg (by omega) ?_
      rw [decide_eq_true (by omega : c > 0)]
      exact H
   refine Evt.step (fun k => codewrightref01_Add.j1.eq_2 ..) (Evt.pos rfl (Evt.bind0 (rlimb_eq a ha.1 i) (Evt.bind0 (rlimb_eq b hb.1 i) (Evt.pos (by omega) ?_))))
   rw [wsucc (by omega), wu64 (x := a.getD i 0 + b.getD i 0) (by omega) (by omega), wu64 (x := a.getD i 0 + b.getD i 0 + c) (by omega) (by omega), tmodp (by omega), tdivp (by omega), wu64 (by omega) (by omega), mod_limb (x := (a.getD i 0 + b.getD i 0 + c) % 4294967296) (by omega) (by omega)]
   refine ih (i + 1) _ _ (by omega) (by omega) (hlim.append (Lim.cons (by omega) (by omega) Lim.nil)) (by simp; omega) (by omega) (by omega) (fun h => ?_) ?_
   ·
    have h1 : a.getD i 0 = 0 := getD_none' a i (by omega)
    have h2 : b.getD i 0 = 0 := getD_none' b i (by omega)
    rw [h1, h2]; omega
   ·
    rw [ev_append, ev_take_succ', ev_take_succ', Int.pow_succ, hlen]
    clear ih fin
    simp only [ev_cons, ev_nil, Int.mul_zero, Int.add_zero]
    have e1 := Int.emod_add_mul_ediv (a.getD i 0 + b.getD i 0 + c) 4294967296
    generalize (a.getD i 0 + b.getD i 0 + c) % 4294967296 = r at *
    generalize (a.getD i 0 + b.getD i 0 + c) / 4294967296 = q at *
    generalize (4294967296 : Int) ^ i = P at *
    have e2 : r = a.getD i 0 + b.getD i 0 + c - 4294967296 * q := by omega
    rw [e2]
    generalize ev out 4294967296 = E at *
    generalize ev (a.take i) 4294967296 = F at *
    generalize ev (b.take i) 4294967296 = G at *
    clear e1 e2
    grind
theorem radd_ev {a b : List Int} {m n : Nat} (ha : Is a m) (hb : Is b n) (hla : a.length ≤ 1000000000) (hlb : b.length ≤ 1000000000) : Evt (fun k => codewrightref01_Add.f k a b) (enc (m + n)) :=
 radd_l0 a b m n ha hb hla hlb (max a.length b.length + 1) 0 [] 0 (by omega) (by omega) Lim.nil rfl (by omega) (by omega) (fun _ => rfl) (by simp)
theorem rmul_l (a b : List Int) (m n : Nat) (ha : Is a m) (hb : Is b n) (hla : a.length ≤ 17592186044000) (hlb : b.length ≤ 17592186044000) : ∀ (d i : Nat) (out : List Int),
  i + d = a.length → Lim out → out.length = a.length + b.length → (∀ p, i + b.length ≤ p → out.getD p 0 = 0) → TimesInv a b out 0 i 0 →
  Evt (fun k => codewrightref01_Mul.l0 k a b out (i : Int)) (enc (m * n)) := by
 intro d
 induction d with
 | zero =>
  intro i out hi hlim hlen hz he
  refine Evt.step (fun k => codewrightref01_Mul.l0.eq_2 ..) (Evt.neg (by omega) ?_)
  refine Evt.bind (rtrim_ev (n := m * n) ⟨hlim, ?_⟩ (by omega)) (Evt.now _)
  rw [he.last (by omega), ha.2, hb.2, Int.natCast_mul]
 | succ d ih =>
  intro i out hi hlim hlen hz he
  refine Evt.step (fun k => codewrightref01_Mul.l0.eq_2 ..) (Evt.pos (by omega) ?_)
  have hx := ha.1.getD i
  suffices H : ∀ (e j : Nat) (out : List Int) (c : Int), j + e = b.length → Lim out → out.length = a.length + b.length → (∀ p, i + b.length ≤ p → out.getD p 0 = 0) → 0 ≤ c → c < 4294967296 → TimesInv a b out c i j →
    Evt (fun k => codewrightref01_Mul.l1 k a b out (i : Int) c (j : Int)) (enc (m * n)) from
   H b.length 0 out 0 (by omega) hlim hlen hz (by omega) (by omega) he
  intro e
  induction e with
  | zero =>
   intro j out c hj hlim hlen hz hc0 hc1 he
   refine Evt.step (fun k => codewrightref01_Mul.l1.eq_2 ..) (Evt.neg (by omega) ?_)
   have hj' : j = b.length := by omega
   subst hj'
   rw [wadd (by omega), wsucc (by omega), mod_limb hc0 hc1, Int.toNat_natCast]
   refine Evt.pos (by omega) (Evt.pos (by omega) ?_)
   exact ih (i + 1) _ (by omega) (hlim.set _ hc0 hc1) (by rw [List.length_set]; omega) (fun p hp => by rw [lset_ne _ _ _ _ (by omega)]; exact hz p (by omega)) (he.next (by omega) (hz _ (Nat.le_refl _)))
  | succ e ihe =>
   intro j out c hj hlim hlen hz hc0 hc1 he
   refine Evt.step (fun k => codewrightref01_Mul.l1.eq_2 ..) (Evt.pos (by omega) (Evt.pos (by omega) (Evt.pos (by omega) (Evt.pos (by omega) ?_))))
   rw [wadd (by omega), wsucc (by omega)]
   refine Evt.pos (by omega) (Evt.pos (by omega) ?_)
   rw [rd_nat, rd_nat, rd_nat, Int.toNat_natCast]
   have hy := hb.1.getD j
   have ho := hlim.getD (i + j)
   have hm := mul_lim hx hy
   have hn := he.step (by omega)
   rw [wu64 hx.1 (by omega), wu64 hy.1 (by omega), wu64 hm.1 (by omega), wu64 ho.1 (by omega), wu64 (x := a.getD i 0 * b.getD j 0 + out.getD (i + j) 0) (by omega) (by omega), wu64 (x := a.getD i 0 * b.getD j 0 + out.getD (i + j) 0 + c) (by omega) (by omega), tmodp (by omega), tdivp (by omega), wu64 (by omega) (by omega), mod_limb (x := (a.getD i 0 * b.getD j 0 + out.getD (i + j) 0 + c) % 4294967296) (by omega) (by omega)]
   exact ihe (j + 1) _ _ (by omega) (hlim.set _ (by omega) (by omega)) (by rw [List.length_set]; omega) (fun p hp => by rw [lset_ne _ _ _ _ (by omega)]; exact hz p hp) (by omega) (by omega) hn
theorem rmul_ev {a b : List Int} {m n : Nat} (ha : Is a m) (hb : Is b n) (hla : a.length ≤ 17592186044000) (hlb : b.length ≤ 17592186044000) : Evt (fun k => codewrightref01_Mul.f k a b) (enc (m * n)) := by
 unfold codewrightref01_Mul.f
 rw [wadd (by omega), Int.toNat_natCast]
 refine Evt.pos (by omega) (Evt.pos (by omega) ?_)
 exact rmul_l a b m n ha hb hla hlb a.length 0 _ (by omega) (Lim.zeros _) (by simp) (fun p _ => lzeros_getD _ _) (TimesInv.start ..)
theorem rof_ev (n : Nat) (h : n < 18446744073709551616) : Evt (fun k => codewrightref01_Of.f k n) (enc n) := by
 unfold codewrightref01_Of.f
 rw [tmodp (by omega), tdivp (by omega), wu64 (by omega) (by omega)]
 refine Evt.bind (rtrim_ev (n := n) ⟨?_, ?_⟩ (by simp)) (Evt.now _)
 ·
  exact Lim.cons (by omega) (by omega) (Lim.cons (by omega) (by omega) Lim.nil)
 ·
  simp only [ev_cons, ev_nil]; omega
theorem rbits_l0 (n : Nat) : ∀ t : Nat, n < 4294967296 → t + blen n ≤ 100000000000 → Evt (fun k => codewrightref01_Bits.l0 k t n) ((t + blen n : Nat) : Int) := by
 induction n using Nat.strongRecOn with
 | ind n ih =>
  intro t hn ht
  refine Evt.step (fun k => codewrightref01_Bits.l0.eq_2 ..) ?_
  by_cases h0 : n = 0
  ·
   refine Evt.neg (by omega) (Evt.now' ?_)
   rw [h0, blen_zero]; omega
  ·
   refine Evt.pos (by omega) ?_
   have hb := blen_half h0
   have h32 := blen_le_32 hn
   have := ih (n / 2) (by omega) (t + 1) (by omega) (by omega)
   rw [wsucc (by omega), tdivp (a := (n : Int)) (by omega), mod_limb (x := (n : Int) / 2) (Int.ediv_nonneg (by omega) (by omega)) (by omega), show (n : Int) / 2 = ((n / 2 : Nat) : Int) by omega, show t + blen n = t + 1 + blen (n / 2) by omega]
   exact this
theorem rbits_ev {xs : List Int} {m : Nat} (hx : Is xs m) (hl : xs.length ≤ 1000000000) : Evt (fun k => codewrightref01_Bits.f k xs) ((blen m : Nat) : Int) := by
 unfold codewrightref01_Bits.f
 have hle := hx.enc_length
 refine Evt.bind (rtrim_ev hx (by omega)) ?_
 by_cases h0 : m = 0
 ·
  refine Evt.pos (by rw [h0, enc_zero]; rfl) (Evt.now' ?_)
  rw [h0]; rfl
 ·
  obtain ⟨top, low, h1, h2, h3, h4, h5⟩ := enc_top h0
  have hp : 0 < (enc m).length := List.length_pos_iff.2 (enc_ne h0)
  have hb := blen_shift h4 (hi := top) (by omega)
  rw [← h5] at hb
  obtain ⟨L, hL⟩ : ∃ L, (enc m).length = L + 1 := ⟨(enc m).length - 1, by omega⟩
  rw [hL, Nat.add_sub_cancel] at h1 hb
  rw [hL, wpred (by omega), rd_nat, h1]
  refine Evt.neg (by omega) (Evt.pos (by omega) (Evt.pos (by omega) ?_))
  have h32 := blen_le_32 h3
  have := rbits_l0 top (32 * L) h3 (by omega)
  rw [w64 (by omega) (by omega), hb, show (32 * (L : Int)) = ((32 * L : Nat) : Int) by omega]
  exact this
end Go.Proofs.Ytjignpnnmfdedaa.ChannelPatternsC
/- What the printed reference function Cmp computes. -/
namespace Go.Proofs.Ytjignpnnmfdedaa.ChannelPatternsC
open Go.RowKit Go.Proofs.Ytjignpnnmfdedaa.PChannelPatterns Go.Proofs.YtjignpnnmfdedaaW.PrintWords Go.Proofs.YtjignpnnmfdedaaW.PrintLast Go.Proofs.YtjignpnnmfdedaaW.PrintMore Cw
theorem rcmp_l0 (a b : List Int) (m n : Nat) (ha : Is a m) (hb : Is b n) : ∀ i : Nat, i ≤ 2000000000 → TopEq a b i →
  Evt (fun k => codewrightref01_Cmp.l0 k a b ((i : Int) - 1)) (cmpN m n) := by
 intro i
 induction i with
 | zero =>
  intro _ h
  have e := h.zero
  rw [ha.2, hb.2] at e
  have : m = n := by omega
  subst this
  rw [cmpN_eq]
  exact Evt.step (fun k => codewrightref01_Cmp.l0.eq_2 ..) (Evt.neg (by omega) (Evt.now _))
 | succ i ih =>
  intro hi h
  refine Evt.step (fun k => codewrightref01_Cmp.l0.eq_2 ..) ?_
  rw [show (((i + 1 : Nat) : Int) - 1) = (i : Int) by omega, wpred2 (by omega)]
  refine Evt.pos (by omega) (Evt.bind0 (rlimb_eq a ha.1 i) (Evt.bind0 (rlimb_eq b hb.1 i) ?_))
  by_cases h1 : a.getD i 0 < b.getD i 0
  ·
   have e := h.lt ha.1 hb.1 h1
   rw [ha.2, hb.2] at e
   exact Evt.pos h1 (Evt.now' (cmpN_lt (by omega)).symm)
  refine Evt.neg h1 (Evt.bind0 (rlimb_eq a ha.1 i) (Evt.bind0 (rlimb_eq b hb.1 i) ?_))
  by_cases h2 : a.getD i 0 > b.getD i 0
  ·
   have e := h.symm.lt hb.1 ha.1 h2
   rw [ha.2, hb.2] at e
   exact Evt.pos h2 (Evt.now' (cmpN_gt (by omega)).symm)
  ·
   exact Evt.neg h2 (ih (by omega) (h.step (by omega)))
theorem rcmp_ev {a b : List Int} {m n : Nat} (ha : Is a m) (hb : Is b n) (hla : a.length ≤ 1000000000) (hlb : b.length ≤ 1000000000) : Evt (fun k => codewrightref01_Cmp.f k a b) (cmpN m n) := by
 unfold codewrightref01_Cmp.f
 rw [mx_eq]
 by_cases h : (a.length : Int) < (b.length : Int)
 ·
  rw [if_pos h, wpred2 (by omega)]
  exact rcmp_l0 a b m n ha hb b.length (by omega) (TopEq.start (by omega) (by omega))
 ·
  rw [if_neg h, wpred2 (by omega)]
  exact rcmp_l0 a b m n ha hb a.length (by omega) (TopEq.start (by omega) (by omega))
end Go.Proofs.Ytjignpnnmfdedaa.ChannelPatternsC
/- What the printed reference functions Sub, shift and DivMod compute. -/
namespace Go.Proofs.Ytjignpnnmfdedaa.ChannelPatternsC
open Go.RowKit Go.Proofs.Ytjignpnnmfdedaa.PChannelPatterns Go.Proofs.YtjignpnnmfdedaaW.PrintWords Go.Proofs.YtjignpnnmfdedaaW.PrintLast Go.Proofs.YtjignpnnmfdedaaW.PrintMore Cw
theorem rsub_l0 (a b : List Int) (m n : Nat) (ha : Is a m) (hb : Is b n) (hl : a.length ≤ 1000000000) (hlb : b.length ≤ a.length) (hmn : n ≤ m) : ∀ (d i : Nat) (out : List Int) (c : Int),
  i + d = a.length → Lim out → out.length = i → (c = 0 ∨ c = 1) → RSubInv a b out c i → Evt (fun k => codewrightref01_Sub.l0 k a b out c (i : Int)) (enc (m - n)) := by
 intro d
 induction d with
 | zero =>
  intro i out c hi hlim hlen hc he
  have h1 : i = a.length := by omega
  subst h1
  refine Evt.step (fun k => codewrightref01_Sub.l0.eq_2 ..) (Evt.neg (by omega) (Evt.bind (rtrim_ev (he.last ha hb hlb hlim hlen hc hmn) (by omega)) (Evt.now _)))
 | succ d ih =>
  intro i out c hi hlim hlen hc he
  have hx := ha.1.getD i
  have hy := hb.1.getD i
  refine Evt.step (fun k => codewrightref01_Sub.l0.eq_2 ..) (Evt.pos (by omega) (Evt.bind0 (rlimb_eq a ha.1 i) (Evt.bind0 (rlimb_eq b hb.1 i) (Evt.pos (by omega) ?_))))
  have hn := he.step hlen
  rw [wsucc (by omega), wu64 (x := a.getD i 0 + 4294967296) (by omega) (by omega), wu64 (x := a.getD i 0 + 4294967296 - b.getD i 0) (by omega) (by omega), wu64 (x := a.getD i 0 + 4294967296 - b.getD i 0 - c) (by omega) (by omega), tmodp (by omega), tdivp (by omega)]
  have hs : 0 ≤ a.getD i 0 + 4294967296 - b.getD i 0 - c ∧ a.getD i 0 + 4294967296 - b.getD i 0 - c < 8589934592 := by omega
  generalize a.getD i 0 + 4294967296 - b.getD i 0 - c = S at *
  rw [wu64 (x := S / 4294967296) (by omega) (by omega), wu64 (x := 1 - S / 4294967296) (by omega) (by omega), mod_limb (x := S % 4294967296) (by omega) (by omega)]
  exact ih (i + 1) _ _ (by omega) (hlim.append (Lim.cons (by omega) (by omega) Lim.nil)) (by simp; omega) (by omega) hn
theorem rsub_ev {a b : List Int} {m n : Nat} (ha : Is a m) (hb : Is b n) (hl : a.length ≤ 1000000000) (hlb : b.length ≤ a.length) (hmn : n ≤ m) : Evt (fun k => codewrightref01_Sub.f k a b) (enc (m - n)) :=
 rsub_l0 a b m n ha hb hl hlb hmn a.length 0 [] 0 (by omega) Lim.nil rfl (.inl rfl) (RSubInv.start a b)
theorem shl_eq {x : Int} {s : Nat} (hs : s ≤ 31) (hx : 0 ≤ x ∧ x < 4294967296) : shl .u64 x s = x * 2 ^ s := by
 have h0 : 2 ^ s ≤ 2 ^ 31 := Nat.pow_le_pow_right (by omega) hs
 have h1 := Int.ofNat_le.2 h0
 have e : ((2 ^ s : Nat) : Int) = (2 : Int) ^ s := by rw [Int.natCast_pow]; rfl
 rw [e] at h1
 have hp : (0 : Int) < 2 ^ s := Int.pow_pos (by omega)
 have h2 : 0 ≤ x * 2 ^ s := Int.mul_nonneg hx.1 (by omega)
 have h3 : x * 2 ^ s ≤ 4294967296 * 2 ^ s := Int.mul_le_mul_of_nonneg_right (by omega) (by omega)
 have h4 : ((2 ^ 31 : Nat) : Int) = 2147483648 := rfl
 unfold shl
 rw [Int.toNat_natCast, Nat.min_eq_left (by show s ≤ 64; omega)]
 exact wu64 h2 (by omega)
theorem rshift_l0 (a : List Int) (m n s W : Nat) (hm : Is a m) (hs : s = n % 32) (hW : W = n / 32) (hn : n ≤ 1000000000) (hl : a.length ≤ 1000000000) : ∀ (d i : Nat) (out : List Int) (c : Int),
  i + d = a.length → Lim out → out.length = W + i → 0 ≤ c → c < 2 ^ s → RShInv a out (2 ^ s) W c i → Evt (fun k => codewrightref01_shift.l0 k a n out c (i : Int)) (enc (m * 2 ^ n)) := by
 have h0 : 2 ^ s ≤ 2 ^ 31 := Nat.pow_le_pow_right (by omega) (by omega)
 have h1 := Int.ofNat_le.2 h0
 have e : ((2 ^ s : Nat) : Int) = (2 : Int) ^ s := by rw [Int.natCast_pow]; rfl
 rw [e] at h1
 have hp : (0 : Int) < 2 ^ s := Int.pow_pos (by omega)
 have h4 : ((2 ^ 31 : Nat) : Int) = 2147483648 := rfl
 have hM : (1 : Int) ≤ 2 ^ s ∧ (2 : Int) ^ s ≤ 2147483648 := by omega
 intro d
 induction d with
 | zero =>
  intro i out c hi hlim hlen hc0 hc1 he
  have h1 : i = a.length := by omega
  subst h1
  refine Evt.step (fun k => codewrightref01_shift.l0.eq_2 ..) (Evt.neg (by omega) (Evt.pos (by omega) (Evt.bind (rtrim_ev (n := m * 2 ^ n) ⟨?_, ?_⟩ ?_) (Evt.now _))))
  ·
   exact hlim.append (Lim.cons (by omega) (by omega) Lim.nil)
  ·
   rw [mod_limb hc0 (by omega), he.last hlen, hm.2, Int.natCast_mul, Int.natCast_pow]
   have := two_pow_split n
   rw [← hs, ← hW] at this
   rw [← this, Int.mul_comm]
   rfl
  ·
   simp only [List.length_append, List.length_cons, List.length_nil]; omega
 | succ d ih =>
  intro i out c hi hlim hlen hc0 hc1 he
  have hx := hm.1.getD i
  have hcc := sh_carry hx hM ⟨hc0, hc1⟩
  have hnn := he.step hlen
  refine Evt.step (fun k => codewrightref01_shift.l0.eq_2 ..) (Evt.pos (by omega) (Evt.pos (by omega) ?_))
  rw [show Int.tmod (n : Int) 32 = (s : Int) by rw [tmodp (by omega)]; omega, wsucc (by omega), rd_nat, wu64 hx.1 (by omega), shl_eq (by omega) hx]
  refine Evt.pos (by omega) (Evt.pos (by omega) ?_)
  have hs2 : 0 ≤ a.getD i 0 * 2 ^ s + c ∧ a.getD i 0 * 2 ^ s + c < 9223372036854775808 := by omega
  generalize a.getD i 0 * 2 ^ s + c = S at *
  rw [wu64 (x := S) (by omega) (by omega), tmodp (by omega), tdivp (by omega), wu64 (x := S / 4294967296) (by omega) (by omega), mod_limb (x := S % 4294967296) (by omega) (by omega)]
  exact ih (i + 1) _ _ (by omega) (hlim.append (Lim.cons (by omega) (by omega) Lim.nil)) (by simp; omega) hcc.2.2.1 hcc.2.2.2 hnn
theorem rshift_ev {a : List Int} {m : Nat} (hm : Is a m) (n : Nat) (hn : n ≤ 1000000000) (hl : a.length ≤ 1000000000) : Evt (fun k => codewrightref01_shift.f k a n) (enc (m * 2 ^ n)) := by
 unfold codewrightref01_shift.f
 rw [show wrap64 (Int.tdiv (n : Int) 32) = ((n / 32 : Nat) : Int) by rw [tdivp (by omega), w64 (by omega) (by omega)]; omega, Int.toNat_natCast]
 refine Evt.pos (by omega) (Evt.pos (by omega) ?_)
 exact rshift_l0 a m n (n % 32) (n / 32) hm rfl rfl hn hl a.length 0 _ 0 (by omega) (Lim.zeros _) (by simp) (by omega) (Int.pow_pos (by omega)) (RShInv.start ..)
theorem enc_len_le {m n L : Nat} (h : m ≤ n) (hn : (enc n).length ≤ L) : (enc m).length ≤ L :=
 enc_length_le _ (Nat.lt_of_le_of_lt h (lt_of_enc_length hn))
theorem enc_one : ([1] : List Int) = enc 1 := by rw [enc_pos (by omega), Nat.div_eq_of_lt (by omega), enc_zero]; rfl
theorem rdiv_l0 (m n : Nat) (b : List Int) (hb : Is b n) (hn : n ≠ 0) (hl : (enc m).length ≤ 100000000) (hlb : b.length ≤ 100000000) : ∀ (t q r : Nat), t ≤ 100000000 → q ≤ m → r ≤ m → DivInv m n q r t →
  Evt (fun k => codewrightref01_DivMod.l0 k b (enc q) (enc r) ((t : Int) - 1)) (enc (m / n), enc (m % n)) := by
 intro t
 induction t with
 | zero =>
  intro q r _ hq hr h
  obtain ⟨h1, h2⟩ := h.last
  have := enc_len_le hq hl
  refine Evt.step (fun k => codewrightref01_DivMod.l0.eq_2 ..) (Evt.neg (by omega) (Evt.bind (rtrim_ev (enc_is q) (by omega)) (Evt.now' ?_)))
  rw [h1, h2]
 | succ t ih =>
  intro q r ht hq hr h
  have hq' := enc_len_le hq hl
  have hr' := enc_len_le hr hl
  have hpos : 0 < 2 ^ t := Nat.two_pow_pos t
  refine Evt.step (fun k => codewrightref01_DivMod.l0.eq_2 ..) ?_
  rw [show (((t + 1 : Nat) : Int) - 1) = (t : Int) by omega, wpred2 (by omega)]
  have hlen1 : (enc (n * 2 ^ t)).length ≤ 200000000 := by
   have h1 := hb.lt
   have h2 : 2 ^ t < 4294967296 ^ (t / 32 + 1) := two_pow_lt (by omega)
   refine Nat.le_trans (enc_length_le (b.length + (t / 32 + 1)) ?_) (by omega)
   rw [Nat.pow_add]
   exact Nat.mul_lt_mul'' h1 h2
  have hlen2 : (enc (2 ^ t)).length ≤ 200000000 := by
   refine enc_len_le (n := n * 2 ^ t) ?_ hlen1
   have : 1 * 2 ^ t ≤ n * 2 ^ t := Nat.mul_le_mul_right _ (by omega)
   omega
  refine Evt.pos (by omega) (Evt.bind (rshift_ev hb t (by omega) (by omega)) (Evt.bind (rcmp_ev (enc_is r) (enc_is _) (by omega) (by omega)) ?_))
  by_cases hge : n * 2 ^ t ≤ r
  ·
   refine Evt.pos ?_ ?_
   ·
    have : ¬ cmpN r (n * 2 ^ t) < 0 := fun h => by have := cmpN_neg.1 h; omega
    omega
   have hle : (enc (n * 2 ^ t)).length ≤ (enc r).length := enc_len_le hge (Nat.le_refl _)
   refine Evt.bind (rsub_ev (enc_is r) (enc_is _) (by omega) hle hge) (Evt.bind ?_ (Evt.bind (radd_ev (m := q) (n := 2 ^ t) (enc_is _) (enc_is _) (by omega) (by omega)) ?_))
   ·
    have := rshift_ev (a := [1]) (m := 1) (by rw [enc_one]; exact enc_is 1) t (by omega) (by simp)
    rw [Nat.one_mul] at this
    exact this
   ·
    have hd := h.yes hge
    refine ih _ _ (by omega) ?_ (by omega) hd
    have h1 := hd.1
    have : (q + 2 ^ t) * 1 ≤ (q + 2 ^ t) * n := Nat.mul_le_mul_left _ (by omega)
    omega
  ·
   refine Evt.neg ?_ (ih _ _ (by omega) hq hr (h.no (by omega)))
   have := cmpN_neg.2 (show r < n * 2 ^ t by omega)
   omega
theorem blen_len {m L : Nat} (h : (enc m).length ≤ L) : blen m ≤ 32 * L := by
 by_cases hm : m = 0
 ·
  rw [hm, blen_zero]; omega
 ·
  have h1 := lt_of_enc_length h
  have h2 := blen_le hm
  have h3 := blen_pos hm
  rw [show (4294967296 : Nat) = 2 ^ 32 by rfl, ← Nat.pow_mul] at h1
  have : blen m - 1 < 32 * L := (Nat.pow_lt_pow_iff_right (by omega)).1 (Nat.lt_of_le_of_lt h2 h1)
  omega
theorem rdivmod_ev {a b : List Int} {m n : Nat} (ha : Is a m) (hb : Is b n) (hn : n ≠ 0) (hl : a.length ≤ 1000000) (hlb : b.length ≤ 1000000) :
  Evt (fun k => codewrightref01_DivMod.f k a b) (enc (m / n), enc (m % n)) := by
 unfold codewrightref01_DivMod.f
 have hla := ha.enc_length
 have hlc := hb.enc_length
 have h1 := blen_len (Nat.le_trans hla hl)
 have h2 := blen_len (Nat.le_trans hlc hlb)
 have h3 := blen_pos hn
 refine Evt.bind (rtrim_ev ha (by omega)) (Evt.bind (rbits_ev ha (by omega)) (Evt.bind (rbits_ev hb (by omega)) ?_))
 rw [show ([] : List Int) = enc 0 by rw [enc_zero]]
 by_cases h : blen n ≤ blen m
 ·
  rw [show wrap64 ((blen m : Int) - (blen n : Int)) = (((blen m - blen n + 1 : Nat) : Int) - 1) by rw [w64 (by omega) (by omega)]; omega]
  exact rdiv_l0 m n b hb hn (by omega) (by omega) _ 0 m (by omega) (by omega) (Nat.le_refl _) (DivInv.start hn _ (by omega))
 ·
  refine Evt.step (fun k => codewrightref01_DivMod.l0.eq_2 ..) (Evt.neg (by rw [w64 (by omega) (by omega)]; omega) (Evt.bind (rtrim_ev (enc_is 0) (by rw [enc_zero]; simp)) (Evt.now' ?_)))
  have hd : DivInv m n 0 m 0 := DivInv.start hn 0 (by omega)
  obtain ⟨e1, e2⟩ := hd.last
  rw [← e1, ← e2]
end Go.Proofs.Ytjignpnnmfdedaa.ChannelPatternsC
/- What the printed functions on fractions compute: Gcd, canonical, Trim; and of the reference: Zero, Gcd, Make, Trim, Sign, Add, Mul, Of, Int. -/
namespace Go.Proofs.Ytjignpnnmfdedaa.ChannelPatternsC
open Go.RowKit Go.Proofs.Ytjignpnnmfdedaa.PChannelPatterns Go.Proofs.YtjignpnnmfdedaaW.PrintWords Go.Proofs.YtjignpnnmfdedaaW.PrintLast Go.Proofs.YtjignpnnmfdedaaW.PrintMore Cw
theorem gcd_turn (m n : Nat) : Nat.gcd n (m % n) = Nat.gcd m n := by rw [Nat.gcd_comm n, ← Nat.gcd_rec, Nat.gcd_comm]
theorem gcd_l0 (L : Nat) (hL : L ≤ 1000000) : ∀ (n m : Nat), (enc m).length ≤ L → (enc n).length ≤ L → Evt (fun k => nat_Gcd.l0 k (enc m) (enc n)) (enc (Nat.gcd m n)) := by
 intro n
 induction n using Nat.strongRecOn with
 | ind n ih =>
  intro m hm hn
  refine Evt.step (fun k => nat_Gcd.l0.eq_2 ..) ?_
  by_cases h0 : n = 0
  ·
   subst h0
   rw [Nat.gcd_zero_right]
   exact Evt.neg (by rw [enc_zero]; simp) (Evt.bind (trim_ev (enc_is m) (by omega)) (Evt.now _))
  ·
   have hp : 0 < (enc n).length := List.length_pos_iff.2 (enc_ne h0)
   have hlt := Nat.mod_lt m (Nat.pos_of_ne_zero h0)
   refine Evt.pos (by omega) (Evt.bind (divmod_ev (enc_is m) (enc_is n) h0 (by omega) (by omega)) ?_)
   rw [← gcd_turn]
   exact ih (m % n) hlt n hn (Nat.le_trans (enc_length_le _ (Nat.lt_trans hlt (lt_of_enc_length (Nat.le_refl _)))) hn)
theorem gcd_ev {a b : List Int} {m n : Nat} (ha : Is a m) (hb : Is b n) (hla : a.length ≤ 1000000) (hlb : b.length ≤ 1000000) : Evt (fun k => nat_Gcd.f k a b) (enc (Nat.gcd m n)) := by
 unfold nat_Gcd.f
 exact Evt.bind (short_ev ha (by omega)) (Evt.bind (short_ev hb (by omega)) (gcd_l0 1000000 (Nat.le_refl _) n m (Nat.le_trans ha.enc_length hla) (Nat.le_trans hb.enc_length hlb)))
theorem one_limb : ([1] : List Int) = enc 1 := by rw [enc_pos (by omega), Nat.div_eq_of_lt (by omega), enc_zero]; rfl
theorem gcd_len {m n : Nat} {L : Nat} (hm : m ≠ 0) (h : (enc m).length ≤ L) : (enc (Nat.gcd m n)).length ≤ L :=
 Nat.le_trans (enc_length_le _ (Nat.lt_of_le_of_lt (Nat.le_of_dvd (Nat.pos_of_ne_zero hm) (Nat.gcd_dvd_left m n)) (lt_of_enc_length (Nat.le_refl _)))) h
theorem canonical_ev (neg : Bool) {a b : List Int} {m n : Nat} (ha : Is a m) (hb : Is b n) (hla : a.length ≤ 1000000) (hlb : b.length ≤ 1000000) :
  Evt (fun k => rational_canonical.f k neg a b) (rneg (rv neg m n), enc (rnum (rv neg m n)), enc (rv neg m n).den) := by
 unfold rational_canonical.f
 have hz : rv neg m n = 0 → Evt (fun k => rational_canonical.j0 k neg a b true) (rneg (rv neg m n), enc (rnum (rv neg m n)), enc (rv neg m n).den) := by
  intro h
  rw [h, rneg_zero, rnum_zero, rden_zero, enc_zero, ← one_limb]
  exact Evt.step (fun k => rational_canonical.j0.eq_2 ..) (Evt.pos rfl (Evt.bind0 (a := [1]) rfl (Evt.now _)))
 refine Evt.bind (bits_ev ha (by omega)) ?_
 by_cases h0 : m = 0
 ·
  subst h0
  exact Evt.pos rfl (hz (rv_zero_num neg n))
 ·
  refine Evt.neg (by have := blen_pos h0; omega) (Evt.bind (bits_ev hb (by omega)) ?_)
  by_cases h1 : n = 0
  ·
   subst h1
   exact hz (rv_zero_den neg m)
  ·
   have hb0 : (((blen n : Nat) : Int) == 0) = false := beq_eq_false_iff_ne.2 (by have := blen_pos h1; omega)
   rw [hb0, rv_rneg h0 h1, rv_rnum h1, rv_den h1]
   have hg : Nat.gcd m n ≠ 0 := fun h => h0 (Nat.eq_zero_of_gcd_eq_zero_left h)
   have hgl := gcd_len (n := n) h0 (Nat.le_trans ha.enc_length hla)
   exact Evt.step (fun k => rational_canonical.j0.eq_2 ..) (Evt.neg (by simp) (Evt.bind (gcd_ev ha hb hla hlb) (Evt.bind (divmod_ev ha (enc_is _) hg (by omega) (by omega)) (Evt.bind (divmod_ev hb (enc_is _) hg (by omega) (by omega)) (Evt.now _)))))
theorem ratTrim_ev (neg : Bool) {a b : List Int} {m n : Nat} (ha : Is a m) (hb : Is b n) (hla : a.length ≤ 1000000) (hlb : b.length ≤ 1000000) :
  Evt (fun k => rational_Trim.f k neg a b) (rneg (rv neg m n), enc (rnum (rv neg m n)), enc (rv neg m n).den) := by
 unfold rational_Trim.f
 exact Evt.bind (canonical_ev neg ha hb hla hlb) (Evt.now _)
theorem rzero_ev {a : List Int} {m : Nat} (ha : Is a m) (hl : a.length ≤ 1000000) : Evt (fun k => codewrightref01_Zero.f k a) (decide (m = 0)) := by
 unfold codewrightref01_Zero.f
 refine Evt.bind (rtrim_ev ha (by omega)) (Evt.now' ?_)
 by_cases h0 : m = 0
 ·
  rw [decide_eq_true h0, h0, enc_zero]; rfl
 ·
  have hp : 0 < (enc m).length := List.length_pos_iff.2 (enc_ne h0)
  rw [decide_eq_false h0]
  exact beq_eq_false_iff_ne.2 (by omega)
theorem rgcd_l0 (L : Nat) (hL : L ≤ 1000000) : ∀ (n m : Nat) (a b : List Int), Is a m → Is b n → a.length ≤ L → b.length ≤ L → Evt (fun k => codewrightref01_Gcd.l0 k a b) (enc (Nat.gcd m n)) := by
 intro n
 induction n using Nat.strongRecOn with
 | ind n ih =>
  intro m a b ha hb hla hlb
  refine Evt.step (fun k => codewrightref01_Gcd.l0.eq_2 ..) (Evt.bind (rzero_ev hb (by omega)) ?_)
  by_cases h0 : n = 0
  ·
   subst h0
   rw [Nat.gcd_zero_right]
   exact Evt.pos rfl (Evt.bind (rtrim_ev ha (by omega)) (Evt.now _))
  ·
   have hlt := Nat.mod_lt m (Nat.pos_of_ne_zero h0)
   rw [decide_eq_false h0, ← gcd_turn]
   exact Evt.neg (by simp) (Evt.bind (rdivmod_ev ha hb h0 (by omega) (by omega)) (ih (m % n) hlt n b _ hb (enc_is _) hlb (Nat.le_trans (enc_length_le _ (Nat.lt_trans hlt hb.lt)) hlb)))
theorem rgcd_ev {a b : List Int} {m n : Nat} (ha : Is a m) (hb : Is b n) (hla : a.length ≤ 1000000) (hlb : b.length ≤ 1000000) : Evt (fun k => codewrightref01_Gcd.f k a b) (enc (Nat.gcd m n)) := by
 unfold codewrightref01_Gcd.f
 exact rgcd_l0 1000000 (Nat.le_refl _) n m a b ha hb hla hlb
theorem make_ev (neg : Bool) {a b : List Int} {m n : Nat} (ha : Is a m) (hb : Is b n) (hla : a.length ≤ 1000000) (hlb : b.length ≤ 1000000) :
  Evt (fun k => codewrightref02_Make.f k neg a b) (rneg (rv neg m n), enc (rnum (rv neg m n)), enc (rv neg m n).den) := by
 unfold codewrightref02_Make.f
 have hz : rv neg m n = 0 → Evt (fun k => codewrightref02_Make.j0 k neg a b true) (rneg (rv neg m n), enc (rnum (rv neg m n)), enc (rv neg m n).den) := by
  intro h
  rw [h, rneg_zero, rnum_zero, rden_zero, enc_zero, ← one_limb]
  exact Evt.step (fun k => codewrightref02_Make.j0.eq_2 ..) (Evt.pos rfl (Evt.now _))
 refine Evt.bind (rzero_ev ha (by omega)) ?_
 by_cases h0 : m = 0
 ·
  subst h0
  exact Evt.pos rfl (hz (rv_zero_num neg n))
 ·
  rw [decide_eq_false h0]
  refine Evt.neg (by simp) (Evt.bind (rzero_ev hb (by omega)) ?_)
  by_cases h1 : n = 0
  ·
   subst h1
   exact hz (rv_zero_den neg m)
  ·
   rw [decide_eq_false h1, rv_rneg h0 h1, rv_rnum h1, rv_den h1]
   have hg : Nat.gcd m n ≠ 0 := fun h => h0 (Nat.eq_zero_of_gcd_eq_zero_left h)
   have hgl := gcd_len (n := n) h0 (Nat.le_trans ha.enc_length hla)
   exact Evt.step (fun k => codewrightref02_Make.j0.eq_2 ..) (Evt.neg (by simp) (Evt.bind (rgcd_ev ha hb hla hlb) (Evt.bind (rdivmod_ev ha (enc_is _) hg (by omega) (by omega)) (Evt.bind (rdivmod_ev hb (enc_is _) hg (by omega) (by omega)) (Evt.now _)))))
theorem r2trim_ev (neg : Bool) {a b : List Int} {m n : Nat} (ha : Is a m) (hb : Is b n) (hla : a.length ≤ 1000000) (hlb : b.length ≤ 1000000) :
  Evt (fun k => codewrightref02_Trim.f k neg a b) (rneg (rv neg m n), enc (rnum (rv neg m n)), enc (rv neg m n).den) := by
 unfold codewrightref02_Trim.f
 exact Evt.bind (make_ev neg ha hb hla hlb) (Evt.now _)
/-- the canonical form, trimmed -/
theorem r2self_ev (r : Rat) {s : Nat} (hs : Sz r s) (hs2 : s ≤ 10000000) : Evt (fun k => codewrightref02_Trim.f k (rneg r) (enc (rnum r)) (enc r.den)) (rneg r, enc (rnum r), enc r.den) := by
 obtain ⟨l1, l2⟩ := hs.len (L := 312500) (by omega)
 have := r2trim_ev (rneg r) (enc_is (rnum r)) (enc_is r.den) (by omega) (by omega)
 rw [rv_self] at this
 exact this
theorem mul_lenL {m n s t L : Nat} (hm : m < 2 ^ s) (hn : n < 2 ^ t) (hst : s + t ≤ 32 * L) : (enc (m * n)).length ≤ L := by
 refine enc_length_le _ (Nat.lt_of_lt_of_le (Nat.mul_lt_mul'' hm hn) ?_)
 rw [← Nat.pow_add, show (4294967296 : Nat) = 2 ^ 32 by rfl, ← Nat.pow_mul]
 exact Nat.pow_le_pow_right (by omega) hst
theorem add_lenL {m n s L : Nat} (hm : m < 2 ^ s) (hn : n < 2 ^ s) (hst : s + 1 ≤ 32 * L) : (enc (m + n)).length ≤ L := by
 refine enc_length_le _ (Nat.lt_of_lt_of_le (show m + n < 2 ^ (s + 1) by rw [Nat.pow_succ]; omega) ?_)
 rw [show (4294967296 : Nat) = 2 ^ 32 by rfl, ← Nat.pow_mul]
 exact Nat.pow_le_pow_right (by omega) hst
theorem bne_of (s t : Bool) (h : (s == t) = false) : t = !s := by cases s <;> cases t <;> simp_all
theorem r2add_ev (a b : Rat) {s t : Nat} (hs : Sz a s) (ht : Sz b t) (hs2 : s ≤ 10000000) (ht2 : t ≤ 10000000) :
  Evt (fun k => codewrightref02_Add.f k (rneg a) (enc (rnum a)) (enc a.den) (rneg b) (enc (rnum b)) (enc b.den)) (rneg (a + b), enc (rnum (a + b)), enc (a + b).den) := by
 unfold codewrightref02_Add.f
 obtain ⟨l1, l2⟩ := hs.len (L := 312500) (by omega)
 obtain ⟨l3, l4⟩ := ht.len (L := 312500) (by omega)
 have d1 := a.den_nz
 have d2 := b.den_nz
 have x1 := mul_lenL (L := 970000) hs.1 ht.2 (by omega)
 have x2 := mul_lenL (L := 970000) ht.1 hs.2 (by omega)
 have x3 := mul_lenL (L := 970000) hs.2 ht.2 (by omega)
 have m1 := rmul_ev (enc_is (rnum a)) (enc_is b.den) (by omega) (by omega)
 have m2 := rmul_ev (enc_is (rnum b)) (enc_is a.den) (by omega) (by omega)
 have m3 := rmul_ev (enc_is a.den) (enc_is b.den) (by omega) (by omega)
 refine Evt.bind (r2self_ev a hs hs2) (Evt.bind (r2self_ev b ht ht2) (Evt.bind m1 (Evt.bind m2 (Evt.bind m3 ?_))))
 by_cases hsg : (rneg a == rneg b) = true
 ·
  have hsg' : rneg b = rneg a := by simpa using (beq_iff_eq.1 hsg).symm
  have x4 : (enc (rnum a * b.den + rnum b * a.den)).length ≤ 970000 := by
   refine add_lenL (s := s + t) ?_ ?_ (by omega)
   ·
    rw [Nat.pow_add]; exact Nat.mul_lt_mul'' hs.1 ht.2
   ·
    rw [Nat.pow_add, Nat.mul_comm (2 ^ s)]; exact Nat.mul_lt_mul'' ht.1 hs.2
  have e : rv (rneg a) (rnum a * b.den + rnum b * a.den) (a.den * b.den) = a + b := by
   rw [← rv_add (rneg a) d1 d2, rv_self]
   conv => lhs; rw [← hsg', rv_self]
  refine Evt.pos hsg (Evt.bind (radd_ev (enc_is _) (enc_is _) (by omega) (by omega)) (Evt.bind (make_ev (rneg a) (enc_is _) (enc_is _) (by omega) (by omega)) (Evt.now' ?_)))
  rw [e]
 ·
  have hsg1 : (rneg a == rneg b) = false := by simpa using hsg
  have hsg' := bne_of _ _ hsg1
  refine Evt.neg hsg (Evt.bind (rcmp_ev (enc_is _) (enc_is _) (by omega) (by omega)) ?_)
  by_cases hle : rnum b * a.den ≤ rnum a * b.den
  ·
   have e : rv (rneg a) (rnum a * b.den - rnum b * a.den) (a.den * b.den) = a + b := by
    rw [← rv_sub (rneg a) d1 d2 hle, rv_self, ← hsg', rv_self]
   have x4 : (enc (rnum a * b.den - rnum b * a.den)).length ≤ 970000 := enc_len_le (Nat.sub_le _ _) x1
   refine Evt.pos ?_ (Evt.bind (rsub_ev (enc_is _) (enc_is _) (by omega) (enc_len_le hle (Nat.le_refl _)) hle) (Evt.bind (make_ev (rneg a) (enc_is _) (enc_is _) (by omega) (by omega)) (Evt.now' (by rw [e]))))
   have : ¬ cmpN (rnum a * b.den) (rnum b * a.den) < 0 := fun h => by have := cmpN_neg.1 h; omega
   omega
  ·
   have e : rv (rneg b) (rnum b * a.den - rnum a * b.den) (a.den * b.den) = a + b := by
    have hsg2 : rneg a = !rneg b := by rw [hsg']; simp
    have := rv_sub (rneg b) (a := rnum b) (b := b.den) (c := rnum a) (d := a.den) d2 d1 (by omega)
    rw [rv_self, ← hsg2, rv_self, Nat.mul_comm b.den] at this
    rw [← this, Rat.add_comm]
   have x4 : (enc (rnum b * a.den - rnum a * b.den)).length ≤ 970000 := enc_len_le (Nat.sub_le _ _) x2
   refine Evt.neg ?_ (Evt.bind (rsub_ev (enc_is _) (enc_is _) (by omega) (enc_len_le (by omega) (Nat.le_refl _)) (by omega)) (Evt.bind (make_ev (rneg b) (enc_is _) (enc_is _) (by omega) (by omega)) (Evt.now' (by rw [e]))))
   have := cmpN_neg.2 (show rnum a * b.den < rnum b * a.den by omega)
   omega
theorem r2mul_ev (a b : Rat) {s t : Nat} (hs : Sz a s) (ht : Sz b t) (hs2 : s ≤ 10000000) (ht2 : t ≤ 10000000) :
  Evt (fun k => codewrightref02_Mul.f k (rneg a) (enc (rnum a)) (enc a.den) (rneg b) (enc (rnum b)) (enc b.den)) (rneg (a * b), enc (rnum (a * b)), enc (a * b).den) := by
 unfold codewrightref02_Mul.f
 obtain ⟨l1, l2⟩ := hs.len (L := 312500) (by omega)
 obtain ⟨l3, l4⟩ := ht.len (L := 312500) (by omega)
 have x1 := mul_lenL (L := 970000) hs.1 ht.1 (by omega)
 have x3 := mul_lenL (L := 970000) hs.2 ht.2 (by omega)
 have m1 := rmul_ev (enc_is (rnum a)) (enc_is (rnum b)) (by omega) (by omega)
 have m3 := rmul_ev (enc_is a.den) (enc_is b.den) (by omega) (by omega)
 have e : rv (rneg a != rneg b) (rnum a * rnum b) (a.den * b.den) = a * b := by rw [← rv_mul, rv_self, rv_self]
 exact Evt.bind (r2self_ev a hs hs2) (Evt.bind (r2self_ev b ht ht2) (Evt.bind m1 (Evt.bind m3 (Evt.bind (make_ev (rneg a != rneg b) (enc_is _) (enc_is _) (by omega) (by omega)) (Evt.now' (by rw [e]))))))
theorem rnum_zero_iff (r : Rat) : (enc (rnum r)).length = 0 ↔ r = 0 := by
 rw [List.length_eq_zero_iff, enc_eq_nil, rnum_eq_zero]
theorem r2sign_ev (r : Rat) {s : Nat} (hs : Sz r s) (hs2 : s ≤ 10000000) : ∃ e, Evt (fun k => codewrightref02_Sign.f k (rneg r) (enc (rnum r)) (enc r.den)) e ∧ (e = 0 ↔ r = 0) := by
 unfold codewrightref02_Sign.f
 by_cases h0 : r = 0
 ·
  refine ⟨0, Evt.bind (r2self_ev r hs hs2) (Evt.pos ?_ (Evt.now _)), fun _ => h0, fun _ => rfl⟩
  have := (rnum_zero_iff r).2 h0
  show ((enc (rnum r)).length : Int) = 0
  omega
 ·
  have hne : ¬ (((enc (rnum r)).length : Int) = 0) := fun h => h0 ((rnum_zero_iff r).1 (by omega))
  by_cases hn : rneg r = true
  ·
   exact ⟨-1, Evt.bind (r2self_ev r hs hs2) (Evt.neg hne (Evt.pos hn (Evt.now _))), fun h => by omega, fun h => absurd h h0⟩
  ·
   exact ⟨1, Evt.bind (r2self_ev r hs hs2) (Evt.neg hne (Evt.neg hn (Evt.now _))), fun h => by omega, fun h => absurd h h0⟩
theorem abs_nat (n : Nat) (h : n < 1000000) : Evt (fun k => codewrightref02_abs.f k (n : Int)) (enc n) := by
 unfold codewrightref02_abs.f
 rw [wu64n (by omega)]
 exact Evt.neg (by omega) (Evt.bind (rof_ev n (by omega)) (Evt.now _))
theorem abs_m1 : Evt (fun k => codewrightref02_abs.f k (-1)) (enc 1) := by
 unfold codewrightref02_abs.f
 rw [show IntKind.u64.wrap (wrap64 (-(wrap64 (-1 + 1)))) = ((0 : Nat) : Int) by rw [w64 (x := -1 + 1) (by omega) (by omega), w64 (by omega) (by omega)]; exact wu64 (by omega) (by omega)]
 have := radd_ev (a := enc 0) (b := [1]) (m := 0) (n := 1) (enc_is 0) (by rw [one_limb]; exact enc_is 1) (by rw [enc_zero]; simp) (by simp)
 exact Evt.pos (by omega) (Evt.bind (rof_ev 0 (by omega)) (Evt.bind this (Evt.now _)))
/-- the fraction n over d -/
theorem r2of_nat (n d : Nat) (hn : n < 1000000) (hd : d < 1000000) : Evt (fun k => codewrightref02_Of.f k (n : Int) (d : Int)) (rneg (rv false n d), enc (rnum (rv false n d)), enc (rv false n d).den) := by
 unfold codewrightref02_Of.f
 rw [decide_eq_false (by omega : ¬ (n : Int) < 0), decide_eq_false (by omega : ¬ (d : Int) < 0)]
 have l1 : (enc n).length ≤ 1 := enc_length_le _ (by omega)
 have l2 : (enc d).length ≤ 1 := enc_length_le _ (by omega)
 exact Evt.bind (abs_nat n hn) (Evt.bind (abs_nat d hd) (Evt.bind (make_ev _ (enc_is n) (enc_is d) (by omega) (by omega)) (Evt.now _)))
theorem r2of_m1 : Evt (fun k => codewrightref02_Of.f k (-1) 1) (rneg (rv true 1 1), enc (rnum (rv true 1 1)), enc (rv true 1 1).den) := by
 unfold codewrightref02_Of.f
 have l1 : (enc 1).length ≤ 1 := enc_length_le _ (by omega)
 have h1 := abs_nat 1 (by omega)
 have h2 := make_ev (decide ((-1 : Int) < 0) != decide ((1 : Int) < 0)) (enc_is 1) (enc_is 1) (by omega) (by omega)
 exact Evt.bind abs_m1 (Evt.bind h1 (Evt.bind h2 (Evt.now _)))
theorem rv_nat (n : Nat) : rv false n 1 = (n : Rat) := by
 unfold rv
 rw [Rat.mkRat_eq_div]
 have e : ((n : Int) : Rat) = (n : Rat) := rfl
 simp only [Bool.false_eq_true, if_false, e]
 grind
theorem r2int_nat (n : Nat) (hn : n < 1000000) : Evt (fun k => codewrightref02_Int.f k (n : Int)) (rneg (n : Rat), enc (rnum (n : Rat)), enc (n : Rat).den) := by
 unfold codewrightref02_Int.f
 have := r2of_nat n 1 hn (by omega)
 rw [rv_nat] at this
 exact Evt.bind this (Evt.now _)
theorem r2int_m1 : Evt (fun k => codewrightref02_Int.f k (-1)) (rneg (-1 : Rat), enc (rnum (-1 : Rat)), enc (-1 : Rat).den) := by
 unfold codewrightref02_Int.f
 have e : rv true 1 1 = (-1 : Rat) := by
  have := rv_neg false 1 1
  rw [rv_nat] at this
  exact this
 have := r2of_m1
 rw [e] at this
 exact Evt.bind this (Evt.now _)
end Go.Proofs.Ytjignpnnmfdedaa.ChannelPatternsC
/- What the printed reference functions on polynomials compute: Canon, Mul, power, Pattern; SameList; and channel.pattern. -/
namespace Go.Proofs.Ytjignpnnmfdedaa.ChannelPatternsC
open Go.RowKit Go.Proofs.Ytjignpnnmfdedaa.PChannelPatterns Go.Proofs.YtjignpnnmfdedaaW.PrintWords Go.Proofs.YtjignpnnmfdedaaW.PrintLast Go.Proofs.YtjignpnnmfdedaaW.PrintMore Cw
/-- a number in its canonical form, as the program holds it -/
def encS (r : Rat) : S52 := ⟨rneg r, enc (rnum r), enc r.den⟩
def encP (l : List Rat) : List S52 := l.map encS
theorem encP_length (l : List Rat) : (encP l).length = l.length := by simp [encP]
theorem rd_encP (l : List Rat) (i : Nat) (h : i < l.length) : rd_T52 (encP l) (i : Int) = encS (l.getD i 0) := by
 unfold rd_T52 encP
 rw [Int.toNat_natCast, List.getD_eq_getElem?_getD, List.getElem?_map, List.getElem?_eq_getElem h, List.getD_eq_getElem?_getD, List.getElem?_eq_getElem h]; rfl
theorem encP_set (l : List Rat) (i : Nat) (r : Rat) : (encP l).set i (encS r) = encP (l.set i r) := by unfold encP; rw [List.map_set]
theorem getD_sz {l : List Rat} {s : Nat} (h : ∀ r ∈ l, Sz r s) (hs : 1 ≤ s) (i : Nat) : Sz (l.getD i 0) s := by
 rw [List.getD_eq_getElem?_getD]
 by_cases hi : i < l.length
 ·
  rw [List.getElem?_eq_getElem hi]; exact h _ (List.getElem_mem hi)
 ·
  rw [List.getElem?_eq_none (by omega)]; exact Sz.zero.mono hs
theorem samelist_l0 (l : List Rat) {s : Nat} (h : ∀ r ∈ l, Sz r s) (hs1 : 1 ≤ s) (hs : s ≤ 10000000) (hl : l.length ≤ 1000000) : ∀ (e i : Nat), i + e = l.length → Evt (fun k => codewrightref02_SameList.l0 k (encP l) (encP l) (i : Int)) true := by
 intro e
 have hle := encP_length l
 induction e with
 | zero => intro i hi; exact Evt.step (fun k => codewrightref02_SameList.l0.eq_2 ..) (Evt.neg (by omega) (Evt.now _))
 | succ e ih =>
  intro i hi
  refine Evt.step (fun k => codewrightref02_SameList.l0.eq_2 ..) (Evt.pos (by omega) (Evt.pos (by omega) (Evt.pos (by omega) ?_)))
  obtain ⟨l1, l2⟩ := (getD_sz h hs1 i).len (L := 312500) (by omega)
  rw [rd_encP l i (by omega), wsucc (by omega)]
  refine Evt.bind (a := true) ?_ (Evt.pos rfl (ih (i + 1) (by omega)))
  unfold codewrightref02_Same.f
  exact Evt.pos (by simp) (Evt.bind (rsame_ev _ (by show (enc _).length ≤ _; omega)) (Evt.pos rfl (Evt.bind (rsame_ev _ (by show (enc _).length ≤ _; omega)) (Evt.now _))))
theorem samelist_ev (l : List Rat) {s : Nat} (h : ∀ r ∈ l, Sz r s) (hs1 : 1 ≤ s) (hs : s ≤ 10000000) (hl : l.length ≤ 1000000) : Evt (fun k => codewrightref02_SameList.f k (encP l) (encP l)) true := by
 unfold codewrightref02_SameList.f
 exact Evt.pos rfl (samelist_l0 l h hs1 hs hl l.length 0 (by omega))
theorem canon_l1 (o : List Rat) (n : Nat) {s : Nat} (h : ∀ r ∈ o, Sz r s) (hs1 : 1 ≤ s) (hs : s ≤ 10000000) (hl : o.length ≤ 1000000) (hn : n ≤ o.length) : ∀ (e i : Nat), i + e = n →
  Evt (fun k => codewrightref55_Canon.l1 k (encP o) n (encP (o.take i) ++ List.replicate (n - i) z52) (i : Int)) (encP (o.take n)) := by
 intro e
 have hle := encP_length o
 induction e with
 | zero =>
  intro i hi
  have : i = n := by omega
  subst this
  refine Evt.step (fun k => codewrightref55_Canon.l1.eq_2 ..) (Evt.neg (by omega) (Evt.now' ?_))
  rw [Nat.sub_self]; simp
 | succ e ih =>
  intro i hi
  have hlt : (encP (o.take i)).length = i := by rw [encP_length, List.length_take]; omega
  have ht : o.take (i + 1) = o.take i ++ [o.getD i 0] := by
   rw [List.take_add_one, List.getD_eq_getElem?_getD, List.getElem?_eq_getElem (by omega)]; rfl
  have ih' := ih (i + 1) (by omega)
  refine Evt.step (fun k => codewrightref55_Canon.l1.eq_2 ..) (Evt.pos (by omega) (Evt.pos (by omega) (Evt.pos (by omega) ?_)))
  rw [rd_encP o i (by omega), wsucc (by omega), Int.toNat_natCast]
  refine Evt.bind (r2self_ev (o.getD i 0) (getD_sz h hs1 i) hs) (Evt.pos ?_ ?_)
  ·
   rw [List.length_append, hlt, List.length_replicate]; omega
  ·
   rw [show n - i = (n - (i + 1)) + 1 by omega, List.replicate_succ, set_mid _ _ _ _ _ hlt.symm]
   have e2 : encP (o.take i) ++ (⟨rneg (o.getD i 0), enc (rnum (o.getD i 0)), enc (o.getD i 0).den⟩ : S52) :: List.replicate (n - (i + 1)) z52 = encP (o.take (i + 1)) ++ List.replicate (n - (i + 1)) z52 := by
    rw [ht]; unfold encP; rw [List.map_append, List.append_assoc]; rfl
   rw [e2]
   exact ih'
theorem canon_l0 (o : List Rat) {s : Nat} (h : ∀ r ∈ o, Sz r s) (hs1 : 1 ≤ s) (hs : s ≤ 10000000) (hl : o.length ≤ 1000000) : ∀ (e i : Nat), i + e = o.length →
  Evt (fun k => codewrightref55_Canon.l0 k (encP o) ((rtrim (o.take i)).length : Nat) (i : Int)) (encP (rtrim o)) := by
 intro e
 have hle := encP_length o
 induction e with
 | zero =>
  intro i hi
  rw [List.take_of_length_le (by omega)]
  have hrl := rtrim_len o
  refine Evt.step (fun k => codewrightref55_Canon.l0.eq_2 ..) (Evt.neg (by omega) (Evt.pos (by omega) (Evt.pos (by omega) ?_)))
  have := canon_l1 o (rtrim o).length h hs1 hs hl hrl (rtrim o).length 0 (by omega)
  rw [← rtrim_take] at this
  rw [Int.toNat_natCast]
  exact this
 | succ e ih =>
  intro i hi
  have ht : o.take (i + 1) = o.take i ++ [o.getD i 0] := by
   rw [List.take_add_one, List.getD_eq_getElem?_getD, List.getElem?_eq_getElem (by omega)]; rfl
  have ih' := ih (i + 1) (by omega)
  rw [ht, rtrim_snoc] at ih'
  obtain ⟨sg, hsg, hz⟩ := r2sign_ev (o.getD i 0) (getD_sz h hs1 i) hs
  refine Evt.step (fun k => codewrightref55_Canon.l0.eq_2 ..) (Evt.pos (by omega) (Evt.pos (by omega) ?_))
  rw [rd_encP o i (by omega), wsucc (by omega)]
  refine Evt.bind hsg ?_
  by_cases h0 : sg = 0
  ·
   rw [if_pos (hz.1 h0)] at ih'
   exact Evt.pos h0 ih'
  ·
   rw [if_neg (fun h => h0 (hz.2 h)), List.length_append, List.length_take, List.length_cons, List.length_nil, Nat.min_eq_left (by omega)] at ih'
   exact Evt.neg h0 ih'
theorem canon_ev (o : List Rat) {s : Nat} (h : ∀ r ∈ o, Sz r s) (hs1 : 1 ≤ s) (hs : s ≤ 10000000) (hl : o.length ≤ 1000000) : Evt (fun k => codewrightref55_Canon.f k (encP o)) (encP (rtrim o)) :=
 canon_l0 o h hs1 hs hl o.length 0 (by omega)
/-- sizes of the entries: so many products have been added in all -/
theorem set_sz {o : List Rat} {s t : Nat} (h : ∀ r ∈ o, Sz r s) (hst : s ≤ t) {i : Nat} {v : Rat} (hv : Sz v t) : ∀ r ∈ o.set i v, Sz r t := by
 intro r hr
 rcases List.mem_or_eq_of_mem_set hr with h' | h'
 ·
  exact (h r h').mono hst
 ·
  rw [h']; exact hv
theorem pmul_l1 (A B : List Rat) (s t S : Nat) (hA : ∀ r ∈ A, Sz r s) (hB : ∀ r ∈ B, Sz r t) (hs1 : 1 ≤ s) (ht1 : 1 ≤ t) (hS : S = s + t + 1) (hla : A.length ≤ 1000) (hlb : B.length ≤ 1000) (hbig : 1 + A.length * B.length * S ≤ 5000000) (hS2 : S ≤ 5000000) : ∀ (e i : Nat) (o : List Rat), i + e = A.length →
  o.length = A.length + B.length → RMulInv A B o i 0 → (∀ r ∈ o, Sz r (1 + i * B.length * S)) → ∃ o', (∀ p, pev o' p = pev A p * pev B p) ∧ Evt (fun k => codewrightref55_Mul.l1 k (encP A) (encP B) (encP o) (i : Int)) (encP (rtrim o')) := by
 have ea := encP_length A
 have eb := encP_length B
 intro e
 induction e with
 | zero =>
  intro i o hi hol hinv hsz
  have hiA : i = A.length := by omega
  subst hiA
  exact ⟨o, hinv.last, Evt.step (fun k => codewrightref55_Mul.l1.eq_2 ..) (Evt.neg (by omega) (Evt.bind (canon_ev o hsz (by omega) (by omega) (by omega)) (Evt.now _)))⟩
 | succ e ih =>
  intro i o hi hol hinv hsz
  have inner : ∀ (e j : Nat) (o : List Rat), j + e = B.length → o.length = A.length + B.length → RMulInv A B o i j → (∀ r ∈ o, Sz r (1 + (i * B.length + j) * S)) →
    ∃ o', (∀ p, pev o' p = pev A p * pev B p) ∧ Evt (fun k => codewrightref55_Mul.l2 k (encP A) (encP B) (encP o) (i : Int) (j : Int)) (encP (rtrim o')) := by
   intro e
   induction e with
   | zero =>
    intro j o hj hol hinv hsz
    have hjB : j = B.length := by omega
    subst hjB
    obtain ⟨o', h1, h2⟩ := ih (i + 1) o (by omega) hol (hinv.next (by omega)) (fun r hr => (hsz r hr).mono (by
     rw [Nat.add_mul i 1, Nat.one_mul]; exact Nat.le_refl _))
    refine ⟨o', h1, Evt.step (fun k => codewrightref55_Mul.l2.eq_2 ..) (Evt.neg (by omega) ?_)⟩
    rw [wsucc (by omega)]; exact h2
   | succ e ihe =>
    intro j o hj hol hinv hsz
    have eo := encP_length o
    have hcnt : (i * B.length + j + 1) * S ≤ A.length * B.length * S := by
     refine Nat.mul_le_mul_right _ ?_
     have h1 : (i + 1) * B.length ≤ A.length * B.length := Nat.mul_le_mul_right _ (by omega)
     rw [Nat.add_mul, Nat.one_mul] at h1
     omega
    have hcnt2 : (i * B.length + j + 1) * S = (i * B.length + j) * S + S := by rw [Nat.add_mul (i * B.length + j), Nat.one_mul]
    have za := getD_sz hA hs1 i
    have zb := getD_sz hB ht1 j
    have zo := getD_sz hsz (by omega) (i + j)
    have zm := za.mul zb
    have zr := (zo.add zm).mono (t := 1 + (i * B.length + (j + 1)) * S) (by rw [← Nat.add_assoc (i * B.length) j 1, hcnt2]; omega)
    obtain ⟨o', h1, h2⟩ := ihe (j + 1) (o.set (i + j) (o.getD (i + j) 0 + A.getD i 0 * B.getD j 0)) (by omega) (by rw [List.length_set]; exact hol) (hinv.step (by omega) (by omega))
     (set_sz hsz (by rw [← Nat.add_assoc (i * B.length) j 1, hcnt2]; omega) zr)
    refine ⟨o', h1, Evt.step (fun k => codewrightref55_Mul.l2.eq_2 ..) (Evt.pos (by omega) ?_)⟩
    rw [wadd (by omega), wsucc (by omega)]
    refine Evt.pos (by omega) (Evt.pos (by omega) (Evt.pos (by omega) (Evt.pos (by omega) (Evt.pos (by omega) ?_))))
    rw [rd_encP A i (by omega), rd_encP B j (by omega), rd_encP o (i + j) (by omega), Int.toNat_natCast]
    refine Evt.bind (r2mul_ev _ _ za zb (by omega) (by omega)) (Evt.bind (r2add_ev _ _ zo zm (by omega) (by omega)) ?_)
    rw [← encP_set] at h2
    exact h2
  obtain ⟨o', h1, h2⟩ := inner B.length 0 o (by omega) hol hinv (by rw [Nat.add_zero]; exact hsz)
  exact ⟨o', h1, Evt.step (fun k => codewrightref55_Mul.l1.eq_2 ..) (Evt.pos (by omega) h2)⟩
theorem pmul_l0 (A B : List Rat) (X : List S52) (n : Nat) (hn : n ≤ 1000000) (next : Evt (fun k => codewrightref55_Mul.l1 k (encP A) (encP B) (encP (List.replicate n 0)) 0) X) : ∀ (e i : Nat), i + e = n →
  Evt (fun k => codewrightref55_Mul.l0 k (encP A) (encP B) (encP (List.replicate i 0) ++ List.replicate (n - i) z52) (i : Int)) X := by
 intro e
 induction e with
 | zero =>
  intro i hi
  have : i = n := by omega
  subst this
  rw [Nat.sub_self, List.replicate_zero, List.append_nil]
  exact Evt.step (fun k => codewrightref55_Mul.l0.eq_2 ..) (Evt.neg (by rw [encP_length, List.length_replicate]; omega) next)
 | succ e ih =>
  intro i hi
  have hlt : (encP (List.replicate i 0)).length = i := by rw [encP_length, List.length_replicate]
  have ih' := ih (i + 1) (by omega)
  have hz := r2int_nat 0 (by omega)
  refine Evt.step (fun k => codewrightref55_Mul.l0.eq_2 ..) (Evt.pos (by rw [List.length_append, hlt, List.length_replicate]; omega) (Evt.bind hz (Evt.pos (by omega) ?_)))
  rw [Int.toNat_natCast, wsucc (by omega), show n - i = (n - (i + 1)) + 1 by omega, List.replicate_succ, set_mid _ _ _ _ _ hlt.symm]
  have e2 : encP (List.replicate i 0) ++ encS 0 :: List.replicate (n - (i + 1)) z52 = encP (List.replicate (i + 1) 0) ++ List.replicate (n - (i + 1)) z52 := by
   rw [List.replicate_succ']; unfold encP; rw [List.map_append, List.append_assoc]; rfl
  rw [← e2] at ih'
  exact ih'
theorem pmul_ev (A B : List Rat) (s t S : Nat) (hA : ∀ r ∈ A, Sz r s) (hB : ∀ r ∈ B, Sz r t) (hs1 : 1 ≤ s) (ht1 : 1 ≤ t) (hS : S = s + t + 1) (hla : A.length ≤ 1000) (hlb : B.length ≤ 1000) (hbig : 1 + A.length * B.length * S ≤ 5000000) (hS2 : S ≤ 5000000) :
  ∃ o, (∀ p, pev o p = pev A p * pev B p) ∧ Evt (fun k => codewrightref55_Mul.f k (encP A) (encP B)) (encP (rtrim o)) := by
 obtain ⟨o, h1, h2⟩ := pmul_l1 A B s t S hA hB hs1 ht1 hS hla hlb hbig hS2 A.length 0 (List.replicate (A.length + B.length) 0) (by omega) (by simp) (RMulInv.start A B _) (fun r hr => by rw [List.eq_of_mem_replicate hr]; exact Sz.zero.mono (by omega))
 refine ⟨o, h1, ?_⟩
 unfold codewrightref55_Mul.f
 rw [encP_length, encP_length, wadd (by omega)]
 refine Evt.pos (by omega) (Evt.pos (by omega) ?_)
 rw [Int.toNat_natCast]
 have := pmul_l0 A B _ (A.length + B.length) (by omega) h2 (A.length + B.length) 0 (by omega)
 exact this
/-- a power, where the powers are known -/
theorem power_ev55 (a : List Rat) (E : Nat → List Rat) (n s : Nat) (hE : ∀ i, i ≤ n → ∀ p, pev (E i) p = (pev a p) ^ i) (hEs : ∀ i, i ≤ n → ∀ r ∈ E i, Sz r s) (hEl : ∀ i, i ≤ n → (E i).length ≤ 20) (has : ∀ r ∈ a, Sz r s) (hal : a.length ≤ 2) (hs1 : 1 ≤ s) (hs : s ≤ 1000) (hn : n ≤ 16) :
  Evt (fun k => codewrightref55_power.f k (encP a) n) (encP (rtrim (E n))) := by
 have loop : ∀ (e i : Nat), i + e = n → Evt (fun k => codewrightref55_power.l0 k (encP a) n (encP (rtrim (E i))) (i : Int)) (encP (rtrim (E n))) := by
  intro e
  induction e with
  | zero =>
   intro i hi
   have : i = n := by omega
   subst this
   exact Evt.step (fun k => codewrightref55_power.l0.eq_2 ..) (Evt.neg (by omega) (Evt.now _))
  | succ e ih =>
   intro i hi
   have hl1 := rtrim_len (E i)
   have hl2 := hEl i (by omega)
   have hprod : (rtrim (E i)).length * a.length * (s + s + 1) ≤ 20 * 2 * 2001 := Nat.mul_le_mul (Nat.mul_le_mul (by omega) hal) (by omega)
   obtain ⟨o, h1, h2⟩ := pmul_ev (rtrim (E i)) a s s (s + s + 1) (fun r hr => hEs i (by omega) r (mem_rtrim hr)) has hs1 hs1 rfl (by omega) (by omega) (by omega) (by omega)
   have heq : rtrim o = rtrim (E (i + 1)) := rtrim_ext _ _ (fun p => by rw [h1, pev_rtrim, hE i (by omega), hE (i + 1) (by omega), Rat.pow_succ])
   rw [heq] at h2
   refine Evt.step (fun k => codewrightref55_power.l0.eq_2 ..) (Evt.pos (by omega) (Evt.bind h2 ?_))
   rw [wsucc (by omega)]
   exact ih (i + 1) (by omega)
 unfold codewrightref55_power.f
 have h0 : rtrim (E 0) = [1] := by
  have : rtrim [1] = [(1 : Rat)] := by simp [rtrim]
  rw [← this]
  exact rtrim_ext _ _ (fun p => by rw [hE 0 (by omega)]; simp; grind)
 have := loop n 0 (by omega)
 rw [h0] at this
 exact Evt.bind (r2int_nat 1 (by omega)) this
theorem rpattern_ev (q n w : Nat) (hq : 2 ≤ q) (hq2 : q ≤ 256) (hn : n ≤ 16) (hw : w ≤ n) : Evt (fun k => codewrightref55_Pattern.f k q n w) (encP (patL ((q - 1 : Nat) : Rat) n w)) := by
 obtain ⟨c, hc⟩ : ∃ c, c = q - 1 := ⟨_, rfl⟩
 rw [← hc]
 have hc0 : c ≠ 0 := by omega
 have hcR : (c : Rat) ≠ 0 := fun h => hc0 (by have : (c : Rat) = ((0 : Nat) : Rat) := h; exact Rat.natCast_inj.1 this)
 have hone : rv false 1 c = 1 / (c : Rat) := by rw [rv_div]; simp
 have hinv : Sz (1 / (c : Rat)) 130 := by
  have := sz_inv (c := c) (w := 1) (by omega) (by omega)
  simpa using this
 have hP1 := power_ev55 [0, 1 / (c : Rat)] (mono c) w 130 (fun i _ p => pev_mono hcR p i) (fun i hi => sz_mono (by omega) (by omega)) (fun i hi => by simp [mono]; omega) (fun r hr => by
  rcases List.mem_cons.1 hr with h | h
  ·
   rw [h]; exact Sz.zero.mono (by omega)
  ·
   have : r = 1 / (c : Rat) := by simpa using h
   rw [this]; exact hinv) (by simp) (by omega) (by omega) (by omega)
 have hP2 := power_ev55 [1, -1] alt (n - w) 17 (fun i _ p => pev_alt p i) (fun i hi => sz_alt (by omega)) (fun i hi => by simp [alt]; omega) (fun r hr => by
  rcases List.mem_cons.1 hr with h | h
  ·
   rw [h]; exact Sz.one.mono (by omega)
  ·
   have : r = -1 := by simpa using h
   rw [this]; exact Sz.one.neg.mono (by omega)) (by simp) (by omega) (by omega) (by omega)
 have hl1 := rtrim_len (mono (c : Rat) w)
 have hl2 := rtrim_len (alt (n - w))
 have hl3 : (mono (c : Rat) w).length ≤ 17 := by simp [mono]; omega
 have hl4 : (alt (n - w)).length ≤ 17 := by simp [alt]; omega
 have hprod : (rtrim (mono (c : Rat) w)).length * (rtrim (alt (n - w))).length * (130 + 17 + 1) ≤ 17 * 17 * 148 := Nat.mul_le_mul (Nat.mul_le_mul (by omega) (by omega)) (by omega)
 obtain ⟨o, h1, h2⟩ := pmul_ev (rtrim (mono (c : Rat) w)) (rtrim (alt (n - w))) 130 17 (130 + 17 + 1) (fun r hr => sz_mono (by omega) (by omega) r (mem_rtrim hr)) (fun r hr => sz_alt (by omega) r (mem_rtrim hr)) (by omega) (by omega) rfl (by omega) (by omega) (by omega) (by omega)
 have heq : rtrim o = patL (c : Rat) n w := by
  rw [← patL_trim hc0 n w]
  refine rtrim_ext _ _ (fun p => ?_)
  rw [h1, pev_rtrim, pev_rtrim, pev_mono hcR, pev_alt, pev_patL, ← inv_pow hcR]
  have e1 : pev [0, 1 / (c : Rat)] p = p * (1 / c) := by simp; grind
  have e2 : pev [1, -1] p = 1 - p := by simp; grind
  rw [e1, e2]
  generalize 1 / (c : Rat) = x
  have : ∀ i : Nat, (p * x) ^ i = p ^ i * x ^ i := by
   intro i
   induction i with
   | zero => simp
   | succ i ih => rw [Rat.pow_succ, Rat.pow_succ, Rat.pow_succ, ih]; grind
  rw [this]; grind
 rw [heq] at h2
 unfold codewrightref55_Pattern.f
 have hof := r2of_nat 1 c (by omega) (by omega)
 rw [hone] at hof
 rw [wpredn (by omega) (by omega), ← hc, wsub (by omega) hw]
 exact Evt.bind (r2int_nat 0 (by omega)) (Evt.bind hof (Evt.bind hP1 (Evt.bind (r2int_nat 1 (by omega)) (Evt.bind r2int_m1 (Evt.bind hP2 (Evt.bind h2 (Evt.now _)))))))
end Go.Proofs.Ytjignpnnmfdedaa.ChannelPatternsC
/- What the printed function channel.pattern computes. -/
namespace Go.Proofs.Ytjignpnnmfdedaa.ChannelPatternsC
open Go.RowKit Go.Proofs.Ytjignpnnmfdedaa.PChannelPatterns Go.Proofs.YtjignpnnmfdedaaW.PrintWords Go.Proofs.YtjignpnnmfdedaaW.PrintLast Go.Proofs.YtjignpnnmfdedaaW.PrintMore Cw
theorem pat_prefix (D n w i : Nat) : encP (List.replicate w 0 ++ (List.range (i + 1)).map (fun i => rv (decide (i % 2 = 1)) (binom (n - w) i) D)) = encP (List.replicate w 0 ++ (List.range i).map (fun i => rv (decide (i % 2 = 1)) (binom (n - w) i) D)) ++ [encS (rv (decide (i % 2 = 1)) (binom (n - w) i) D)] := by
 unfold encP
 simp [List.range_succ]
theorem pattern_l1 (n w D : Nat) (hn : n ≤ 16) (hw : w ≤ n) (hD : (enc D).length ≤ 1000) : ∀ (e i : Nat), i + e = n - w + 1 →
  Evt (fun k => channel_pattern.l1 k n w (enc D) (encP (List.replicate w 0 ++ (List.range i).map (fun i => rv (decide (i % 2 = 1)) (binom (n - w) i) D)) ++ List.replicate (n - w + 1 - i) z52) (i : Int)) (encP (patR D n w)) := by
 intro e
 induction e with
 | zero =>
  intro i hi
  have : i = n - w + 1 := by omega
  subst this
  rw [Nat.sub_self, List.replicate_zero, List.append_nil]
  refine Evt.step (fun k => channel_pattern.l1.eq_2 ..) (Evt.neg ?_ (Evt.now' rfl))
  rw [wadd (by omega)]; omega
 | succ e ih =>
  intro i hi
  have hlt : (encP (List.replicate w 0 ++ (List.range i).map (fun i => rv (decide (i % 2 = 1)) (binom (n - w) i) D))).length = w + i := by rw [encP_length]; simp
  have ih' := ih (i + 1) (by omega)
  rw [pat_prefix, List.append_assoc, List.cons_append, List.nil_append] at ih'
  have hb : (enc (binom (n - w) i)).length ≤ 129 := enc_length_le _ (Nat.lt_of_le_of_lt (binom_le (n - w) i) (two_pow_lt (by omega)))
  have hodd : ((Int.tmod (i : Int) 2) == 1) = decide (i % 2 = 1) := by
   rw [tmodp (by omega)]
   by_cases h : i % 2 = 1
   ·
    rw [decide_eq_true h]; exact beq_iff_eq.2 (by omega)
   ·
    rw [decide_eq_false h]; exact beq_eq_false_iff_ne.2 (by omega)
  refine Evt.step (fun k => channel_pattern.l1.eq_2 ..) ?_
  rw [wadd (by omega), wsub (i := n) (j := w) (by omega) hw, wsucc (by omega), hodd]
  refine Evt.pos (by omega) (Evt.bind (binomial_ev (n - w) i (by omega)) (Evt.bind (ratTrim_ev _ (enc_is _) (enc_is D) (by show (enc _).length ≤ _; omega) (by omega)) (Evt.pos (by omega) (Evt.pos ?_ ?_))))
  ·
   rw [List.length_append, hlt, List.length_replicate]; omega
  ·
   rw [Int.toNat_natCast, show n - w + 1 - i = (n - w + 1 - (i + 1)) + 1 by omega, List.replicate_succ, set_mid _ _ _ _ _ hlt.symm]
   exact ih'
theorem pattern_l0 (n w D : Nat) (X : List S52) (hn : n ≤ 16) (hw : w ≤ n) (next : Evt (fun k => channel_pattern.l1 k n w (enc D) (encP (List.replicate w 0) ++ List.replicate (n + 1 - w) z52) 0) X) : ∀ (e i : Nat), i + e = w →
  Evt (fun k => channel_pattern.l0 k n w (enc D) (encP (List.replicate i 0) ++ List.replicate (n + 1 - i) z52) w (i : Int)) X := by
 intro e
 induction e with
 | zero =>
  intro i hi
  have : i = w := by omega
  subst this
  exact Evt.step (fun k => channel_pattern.l0.eq_2 ..) (Evt.neg (by omega) next)
 | succ e ih =>
  intro i hi
  have hlt : (encP (List.replicate i 0)).length = i := by rw [encP_length, List.length_replicate]
  have ih' := ih (i + 1) (by omega)
  have e1 : encS 0 = (⟨false, [], [1]⟩ : S52) := by
   unfold encS
   rw [rneg_zero, rnum_zero, rden_zero, enc_zero, one_limb]
  refine Evt.step (fun k => channel_pattern.l0.eq_2 ..) (Evt.pos (by omega) (Evt.bind0 (a := (false, [], [1])) rfl (Evt.pos (by omega) (Evt.pos ?_ ?_))))
  ·
   rw [List.length_append, hlt, List.length_replicate]; omega
  ·
   rw [Int.toNat_natCast, wsucc (by omega), show n + 1 - i = (n + 1 - (i + 1)) + 1 by omega, List.replicate_succ, set_mid _ _ _ _ _ hlt.symm]
   have e2 : encP (List.replicate i 0) ++ encS 0 :: List.replicate (n + 1 - (i + 1)) z52 = encP (List.replicate (i + 1) 0) ++ List.replicate (n + 1 - (i + 1)) z52 := by
    rw [List.replicate_succ']; unfold encP; rw [List.map_append, List.append_assoc]; rfl
   rw [← e2, e1] at ih'
   exact ih'
theorem pattern_ev (q n w : Nat) (hq : 2 ≤ q) (hq2 : q ≤ 256) (hn : n ≤ 16) (hw : w ≤ n) : Evt (fun k => channel_pattern.f k q n w) (encP (patL ((q - 1 : Nat) : Rat) n w)) := by
 unfold channel_pattern.f
 have l1 : (enc (q - 1)).length ≤ 2 := enc_length_le _ (by omega)
 have hpw : (q - 1) ^ w ≤ 2 ^ 128 := by
  have h1 : (q - 1) ^ w ≤ (2 ^ 8) ^ w := Nat.pow_le_pow_left (by omega) w
  rw [← Nat.pow_mul] at h1
  exact Nat.le_trans h1 (Nat.pow_le_pow_right (by omega) (by omega))
 obtain ⟨L, hL⟩ : ∃ L, L = 4096 := ⟨_, rfl⟩
 have hlim : (q - 1) ^ w < 4294967296 ^ L := Nat.lt_of_le_of_lt hpw (two_pow_lt (by omega))
 have hD5 : (enc ((q - 1) ^ w)).length ≤ 5 := enc_length_le _ (Nat.lt_of_le_of_lt hpw (two_pow_lt (by omega)))
 have hD : (enc ((q - 1) ^ w)).length ≤ 1000 := Nat.le_trans hD5 (by omega)
 rw [wpredn (by omega) (by omega), wu64n (by omega), wsucc (by omega)]
 refine Evt.bind (of_ev (q - 1) (by omega)) (Evt.bind (pow_ev (enc_is _) (by omega) w L hL (by omega) (.inr hlim)) (Evt.pos (by omega) (Evt.pos (by omega) ?_)))
 rw [Int.toNat_natCast, ← patR_patL]
 have h1 := pattern_l1 n w ((q - 1) ^ w) hn hw hD (n - w + 1) 0 (by omega)
 rw [List.range_zero, List.map_nil, List.append_nil, Nat.sub_zero, show n - w + 1 = n + 1 - w by omega] at h1
 have h2 := pattern_l0 n w ((q - 1) ^ w) _ hn hw h1 w 0 (by omega)
 exact h2
theorem Pattern_ev (q n w : Nat) (hq : 2 ≤ q) (hq2 : q ≤ 256) (hn : n ≤ 16) (hw : w ≤ n) : Evt (fun k => channel_Pattern.f k q n w) (encP (patL ((q - 1 : Nat) : Rat) n w), 0) := by
 unfold channel_Pattern.f
 exact Evt.neg (by omega) (Evt.neg (by omega) (Evt.neg (by omega) (Evt.neg (by omega) (Evt.neg (by omega) (Evt.neg (by omega) (Evt.bind (pattern_ev q n w hq hq2 hn hw) (Evt.now _)))))))
end Go.Proofs.Ytjignpnnmfdedaa.ChannelPatternsC
/- The function channel.Pattern returns the polynomial that the reference computes, and ErrRange just for arguments out of their ranges (for lengths up to 16 and beyond 64). Conditions: none, for every three ints. -/
namespace Go.Proofs.Ytjignpnnmfdedaa.Pure
open Go.RowKit Go.Proofs.Ytjignpnnmfdedaa.PChannelPatterns Go.Proofs.YtjignpnnmfdedaaW.PrintWords Go.Proofs.YtjignpnnmfdedaaW.PrintLast Go.Proofs.YtjignpnnmfdedaaW.PrintMore Cw Go.Proofs.Ytjignpnnmfdedaa.ChannelPatternsC
theorem pat_bad {q n w : Int} (h : q < 2 ∨ q > 256 ∨ n < 0 ∨ n > 64 ∨ w < 0 ∨ w > n) : Evt (fun k => channel_Pattern.f k q n w) ([], 6) := by
 unfold channel_Pattern.f
 by_cases h1 : q < 2
 ·
  exact Evt.pos h1 (Evt.now _)
 ·
  refine Evt.neg h1 ?_
  by_cases h2 : q > 256
  ·
   exact Evt.pos h2 (Evt.now _)
  ·
   refine Evt.neg h2 ?_
   by_cases h3 : n < 0
   ·
    exact Evt.pos h3 (Evt.now _)
   ·
    refine Evt.neg h3 ?_
    by_cases h4 : n > 64
    ·
     exact Evt.pos h4 (Evt.now _)
    ·
     refine Evt.neg h4 ?_
     by_cases h5 : w < 0
     ·
      exact Evt.pos h5 (Evt.now _)
     ·
      exact Evt.neg h5 (Evt.pos (by omega) (Evt.now _))
theorem pat_split {α : Type} {A : Nat → Option α} {B : Bool → Nat → Option α} {r : α} {q n w : Int} (hb : (q < 2 ∨ q > 256 ∨ n < 0 ∨ n > 64 ∨ w < 0 ∨ w > n) → Evt A r ∧ Evt (B true) r) (hg : ¬ (q < 2 ∨ q > 256 ∨ n < 0 ∨ n > 64 ∨ w < 0 ∨ w > n) → Evt (B false) r) :
  Evt (fun k => if q < 2 then A k else if q > 256 then A k else if n < 0 then A k else if n > 64 then A k else if w < 0 then A k else B (decide (w > n)) k) r := by
 by_cases h1 : q < 2
 ·
  exact Evt.pos h1 (hb (by omega)).1
 ·
  refine Evt.neg h1 ?_
  by_cases h2 : q > 256
  ·
   exact Evt.pos h2 (hb (by omega)).1
  ·
   refine Evt.neg h2 ?_
   by_cases h3 : n < 0
   ·
    exact Evt.pos h3 (hb (by omega)).1
   ·
    refine Evt.neg h3 ?_
    by_cases h4 : n > 64
    ·
     exact Evt.pos h4 (hb (by omega)).1
    ·
     refine Evt.neg h4 ?_
     by_cases h5 : w < 0
     ·
      exact Evt.pos h5 (hb (by omega)).1
     ·
      refine Evt.neg h5 ?_
      by_cases h6 : w > n
      ·
       rw [decide_eq_true h6]; exact (hb (by omega)).2
      ·
       rw [decide_eq_false h6]; exact hg (by omega)
theorem ChannelPatterns : codewrightlaw55_ChannelPatterns.Pure := by
 intro q n w _ _ _
 refine Evt.rounds ?_
 unfold codewrightlaw55_ChannelPatterns.f
 have main : (n ≤ 16 ∨ n > 64) → Evt (fun k => codewrightlaw55_ChannelPatterns.j0 k q n w false) true := by
  intro hn
  refine Evt.step (fun k => codewrightlaw55_ChannelPatterns.j0.eq_2 ..) (Evt.neg (by simp) ?_)
  by_cases hbad : q < 2 ∨ q > 256 ∨ n < 0 ∨ n > 64 ∨ w < 0 ∨ w > n
  ·
   have hj : Evt (fun k => codewrightlaw55_ChannelPatterns.j1 k q n w [] 6 true) true :=
    Evt.step (fun k => codewrightlaw55_ChannelPatterns.j1.eq_2 ..) (Evt.pos rfl (Evt.pos rfl (Evt.now' rfl)))
   exact Evt.bind (pat_bad hbad) (pat_split (A := fun k => codewrightlaw55_ChannelPatterns.j1 k q n w [] 6 true) (B := fun b k => codewrightlaw55_ChannelPatterns.j1 k q n w [] 6 b) (fun _ => ⟨hj, hj⟩) (fun h => absurd hbad h))
  ·
   obtain ⟨q, rfl⟩ := Int.eq_ofNat_of_zero_le (by omega : 0 ≤ q)
   obtain ⟨n, rfl⟩ := Int.eq_ofNat_of_zero_le (by omega : 0 ≤ n)
   obtain ⟨w, rfl⟩ := Int.eq_ofNat_of_zero_le (by omega : 0 ≤ w)
   have hc := sz_patL (c := q - 1) (n := n) (w := w) (by omega) (by omega) (by omega)
   have hlen : (patL ((q - 1 : Nat) : Rat) n w).length ≤ 100 := by simp [patL]; omega
   have hj : Evt (fun k => codewrightlaw55_ChannelPatterns.j1 k q n w (encP (patL ((q - 1 : Nat) : Rat) n w)) 0 false) true := by
    refine Evt.step (fun k => codewrightlaw55_ChannelPatterns.j1.eq_2 ..) (Evt.neg (by simp) (Evt.neg (by omega) (Evt.pos rfl (Evt.bind (rpattern_ev q n w (by omega) (by omega) (by omega) (by omega)) (Evt.bind (a := true) ?_ (Evt.now _))))))
    unfold codewrightlaw55_same.f
    exact Evt.bind (samelist_ev _ hc (by omega) (by omega) (by omega)) (Evt.now _)
   exact Evt.bind (Pattern_ev q n w (by omega) (by omega) (by omega) (by omega)) (pat_split (A := fun k => codewrightlaw55_ChannelPatterns.j1 k q n w (encP (patL ((q - 1 : Nat) : Rat) n w)) 0 true) (B := fun b k => codewrightlaw55_ChannelPatterns.j1 k q n w (encP (patL ((q - 1 : Nat) : Rat) n w)) 0 b) (fun h => absurd h hbad) (fun _ => hj))
 by_cases h16 : n > 16
 ·
  refine Evt.pos h16 ?_
  by_cases h64 : n ≤ 64
  ·
   rw [decide_eq_true h64]
   exact Evt.step (fun k => codewrightlaw55_ChannelPatterns.j0.eq_2 ..) (Evt.pos rfl (Evt.now _))
  ·
   rw [decide_eq_false h64]
   exact main (.inr (by omega))
 ·
  exact Evt.neg h16 (main (.inl (by omega)))
end Go.Proofs.Ytjignpnnmfdedaa.Pure
