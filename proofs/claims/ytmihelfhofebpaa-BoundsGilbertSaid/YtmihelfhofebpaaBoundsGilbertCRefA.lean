/- What the printed reference functions on numbers compute: Trim, Same, limb, Add, Mul, Of, small, Choose, Bits, Pow. -/
import Derived.Test.YtmihelfhofebpaaPBoundsGilbertx
import Derived.Test.YtmihelfhofebpaaBoundsGilbertCWr
import Derived.Test.YtmihelfhofebpaaCwBinom
namespace Go.Proofs.Ytmihelfhofebpaa.BoundsGilbertC
open Go.RowKit Go.Proofs.Ytmihelfhofebpaa.PBoundsGilbert Go.Proofs.YtmihelfhofebpaaW.PrintWords Go.Proofs.YtmihelfhofebpaaW.PrintLast Go.Proofs.YtmihelfhofebpaaW.PrintMore Cw

theorem rtrim_l0 (xs : List Int) (n : Nat) (hx : Is xs n) (hl : xs.length ≤ 35184372088831) : ∀ m : Nat, m ≤ xs.length → (∀ i, m ≤ i → i < xs.length → xs.getD i 0 = 0) →
    Evt (fun k => codewrightref01_Trim.l0 k xs m) (enc n) := by
  intro m
  induction m with
  | zero =>
    intro hm h
    refine Evt.step (fun k => codewrightref01_Trim.l0.eq_2 ..) (Evt.neg (by omega) (Evt.bind (Evt.now _) (Evt.pos (by omega) (Evt.pos (by omega) (Evt.pos (by simp) (Evt.now' ?_))))))
    exact take_eq_enc hx 0 hm h (.inl rfl)
  | succ m ih =>
    intro hm h
    refine Evt.step (fun k => codewrightref01_Trim.l0.eq_2 ..) ?_
    rw [wpred (by omega)]
    refine Evt.pos (by omega) (Evt.pos (by omega) (Evt.pos (by omega) ?_))
    by_cases hz : rd xs (m : Int) = 0
    · refine Evt.pos hz (ih (by omega) fun i h1 h2 => ?_)
      by_cases hi : i = m
      · rw [hi]; exact hz
      · exact h i (by omega) h2
    · refine Evt.neg hz (Evt.bind (Evt.now _) (Evt.pos (by omega) (Evt.pos (by omega) (Evt.pos (by simp; omega) (Evt.now' ?_)))))
      rw [List.nil_append]
      exact take_eq_enc hx (m + 1) hm h (.inr hz)
theorem rtrim_ev {xs : List Int} {n : Nat} (hx : Is xs n) (hl : xs.length ≤ 35184372088831) : Evt (fun k => codewrightref01_Trim.f k xs) (enc n) :=
  rtrim_l0 xs n hx hl xs.length (Nat.le_refl _) (fun i h1 h2 => by omega)

theorem rlimb_eq (xs : List Int) (hx : Lim xs) (i : Nat) : codewrightref01_limb.f xs i = some (xs.getD i 0) := by
  unfold codewrightref01_limb.f
  have := hx.getD i
  by_cases h : i < xs.length
  · rw [if_pos (by omega), if_pos (by omega), rd_nat, wu64 this.1 (by omega)]
  · rw [if_neg (by omega), getD_none' xs i (by omega)]

theorem radd_l0 (a b : List Int) (m n : Nat) (ha : Is a m) (hb : Is b n) (hla : a.length ≤ 1000000000) (hlb : b.length ≤ 1000000000) : ∀ (d i : Nat) (out : List Int) (c : Int),
    (max a.length b.length) + 1 - i ≤ d → i ≤ max a.length b.length + 1 → Lim out → out.length = i → 0 ≤ c → c ≤ 1 → (i = max a.length b.length + 1 → c = 0) →
    ev out 4294967296 + c * 4294967296 ^ i = ev (a.take i) 4294967296 + ev (b.take i) 4294967296 →
    Evt (fun k => codewrightref01_Add.l0 k a b out c (i : Int)) (enc (m + n)) := by
  intro d
  have fin : ∀ (i : Nat) (out : List Int) (c : Int), a.length ≤ i → b.length ≤ i → i ≤ max a.length b.length + 1 → Lim out → out.length = i → c = 0 →
      ev out 4294967296 + c * 4294967296 ^ i = ev (a.take i) 4294967296 + ev (b.take i) 4294967296 →
      Evt (fun k => codewrightref01_Add.l0 k a b out c (i : Int)) (enc (m + n)) := by
    intro i out c h1 h2 h3 hlim hlen hc he
    rw [List.take_of_length_le h1, List.take_of_length_le h2, ha.2, hb.2, hc] at he
    subst hc
    refine Evt.step (fun k => codewrightref01_Add.l0.eq_2 ..) (Evt.neg (by omega) (Evt.neg (by omega) ?_))
    rw [decide_eq_false (by omega : ¬ (0 : Int) > 0)]
    refine Evt.step (fun k => codewrightref01_Add.j1.eq_2 ..) (Evt.neg (by simp) (Evt.bind (rtrim_ev ⟨hlim, ?_⟩ (by omega)) (Evt.now _)))
    simp only [Int.zero_mul, Int.add_zero] at he
    rw [he]; omega
  induction d with
  | zero =>
    intro i out c hd hi hlim hlen hc0 hc1 hcz he
    exact fin i out c (by omega) (by omega) hi hlim hlen (hcz (by omega)) he
  | succ d ih =>
    intro i out c hd hi hlim hlen hc0 hc1 hcz he
    by_cases hlast : a.length ≤ i ∧ b.length ≤ i ∧ c = 0
    · exact fin i out c hlast.1 hlast.2.1 hi hlim hlen hlast.2.2 he
    · have hi2 : i < max a.length b.length + 1 := by omega
      have hx := ha.1.getD i
      have hy := hb.1.getD i
      suffices H : Evt (fun k => codewrightref01_Add.j1 k a b out c (i : Int) true) (enc (m + n)) by
        refine Evt.step (fun k => codewrightref01_Add.l0.eq_2 ..) ?_
        by_cases h1 : i < a.length
        · exact Evt.pos (by omega) H
        · refine Evt.neg (by omega) ?_
          by_cases h2 : i < b.length
          · exact Evt.pos (by omega) H
          · refine Evt.neg (by omega) ?_
            rw [decide_eq_true (by omega : c > 0)]
            exact H
      refine Evt.step (fun k => codewrightref01_Add.j1.eq_2 ..) (Evt.pos rfl (Evt.bind0 (rlimb_eq a ha.1 i) (Evt.bind0 (rlimb_eq b hb.1 i) (Evt.pos (by omega) ?_))))
      rw [wsucc (by omega), wu64 (x := a.getD i 0 + b.getD i 0) (by omega) (by omega), wu64 (x := a.getD i 0 + b.getD i 0 + c) (by omega) (by omega), tmodp (by omega), tdivp (by omega), wu64 (by omega) (by omega), mod_limb (x := (a.getD i 0 + b.getD i 0 + c) % 4294967296) (by omega) (by omega)]
      refine ih (i + 1) _ _ (by omega) (by omega) (hlim.append (Lim.cons (by omega) (by omega) Lim.nil)) (by simp; omega) (by omega) (by omega) (fun h => ?_) ?_
      · have h1 : a.getD i 0 = 0 := getD_none' a i (by omega)
        have h2 : b.getD i 0 = 0 := getD_none' b i (by omega)
        rw [h1, h2]; omega
      · rw [ev_append, ev_take_succ', ev_take_succ', Int.pow_succ, hlen]
        clear ih fin
        simp only [ev_cons, ev_nil, Int.mul_zero, Int.add_zero]
        have e1 := Int.emod_add_mul_ediv (a.getD i 0 + b.getD i 0 + c) 4294967296
        generalize (a.getD i 0 + b.getD i 0 + c) % 4294967296 = r at *
        generalize (a.getD i 0 + b.getD i 0 + c) / 4294967296 = q at *
        generalize (4294967296 : Int) ^ i = P at *
        have e2 : r = a.getD i 0 + b.getD i 0 + c - 4294967296 * q := by omega
        rw [e2]
        generalize ev out 4294967296 = E at *
        generalize ev (a.take i) 4294967296 = F at *
        generalize ev (b.take i) 4294967296 = G at *
        clear e1 e2
        grind

theorem radd_ev {a b : List Int} {m n : Nat} (ha : Is a m) (hb : Is b n) (hla : a.length ≤ 1000000000) (hlb : b.length ≤ 1000000000) : Evt (fun k => codewrightref01_Add.f k a b) (enc (m + n)) :=
  radd_l0 a b m n ha hb hla hlb (max a.length b.length + 1) 0 [] 0 (by omega) (by omega) Lim.nil rfl (by omega) (by omega) (fun _ => rfl) (by simp)

theorem rmul_l (a b : List Int) (m n : Nat) (ha : Is a m) (hb : Is b n) (hla : a.length ≤ 17592186044000) (hlb : b.length ≤ 17592186044000) : ∀ (d i : Nat) (out : List Int),
    i + d = a.length → Lim out → out.length = a.length + b.length → (∀ p, i + b.length ≤ p → out.getD p 0 = 0) → TimesInv a b out 0 i 0 →
    Evt (fun k => codewrightref01_Mul.l0 k a b out (i : Int)) (enc (m * n)) := by
  intro d
  induction d with
  | zero =>
    intro i out hi hlim hlen hz he
    refine Evt.step (fun k => codewrightref01_Mul.l0.eq_2 ..) (Evt.neg (by omega) ?_)
    refine Evt.bind (rtrim_ev (n := m * n) ⟨hlim, ?_⟩ (by omega)) (Evt.now _)
    rw [he.last (by omega), ha.2, hb.2, Int.natCast_mul]
  | succ d ih =>
    intro i out hi hlim hlen hz he
    refine Evt.step (fun k => codewrightref01_Mul.l0.eq_2 ..) (Evt.pos (by omega) ?_)
    have hx := ha.1.getD i
    suffices H : ∀ (e j : Nat) (out : List Int) (c : Int), j + e = b.length → Lim out → out.length = a.length + b.length → (∀ p, i + b.length ≤ p → out.getD p 0 = 0) → 0 ≤ c → c < 4294967296 → TimesInv a b out c i j →
        Evt (fun k => codewrightref01_Mul.l1 k a b out (i : Int) c (j : Int)) (enc (m * n)) from
      H b.length 0 out 0 (by omega) hlim hlen hz (by omega) (by omega) he
    intro e
    induction e with
    | zero =>
      intro j out c hj hlim hlen hz hc0 hc1 he
      refine Evt.step (fun k => codewrightref01_Mul.l1.eq_2 ..) (Evt.neg (by omega) ?_)
      have hj' : j = b.length := by omega
      subst hj'
      rw [wadd (by omega), wsucc (by omega), mod_limb hc0 hc1, Int.toNat_natCast]
      refine Evt.pos (by omega) (Evt.pos (by omega) ?_)
      exact ih (i + 1) _ (by omega) (hlim.set _ hc0 hc1) (by rw [List.length_set]; omega) (fun p hp => by rw [lset_ne _ _ _ _ (by omega)]; exact hz p (by omega)) (he.next (by omega) (hz _ (Nat.le_refl _)))
    | succ e ihe =>
      intro j out c hj hlim hlen hz hc0 hc1 he
      refine Evt.step (fun k => codewrightref01_Mul.l1.eq_2 ..) (Evt.pos (by omega) (Evt.pos (by omega) (Evt.pos (by omega) (Evt.pos (by omega) ?_))))
      rw [wadd (by omega), wsucc (by omega)]
      refine Evt.pos (by omega) (Evt.pos (by omega) ?_)
      rw [rd_nat, rd_nat, rd_nat, Int.toNat_natCast]
      have hy := hb.1.getD j
      have ho := hlim.getD (i + j)
      have hm := mul_lim hx hy
      have hn := he.step (by omega)
      rw [wu64 hx.1 (by omega), wu64 hy.1 (by omega), wu64 hm.1 (by omega), wu64 ho.1 (by omega), wu64 (x := a.getD i 0 * b.getD j 0 + out.getD (i + j) 0) (by omega) (by omega), wu64 (x := a.getD i 0 * b.getD j 0 + out.getD (i + j) 0 + c) (by omega) (by omega), tmodp (by omega), tdivp (by omega), wu64 (by omega) (by omega), mod_limb (x := (a.getD i 0 * b.getD j 0 + out.getD (i + j) 0 + c) % 4294967296) (by omega) (by omega)]
      exact ihe (j + 1) _ _ (by omega) (hlim.set _ (by omega) (by omega)) (by rw [List.length_set]; omega) (fun p hp => by rw [lset_ne _ _ _ _ (by omega)]; exact hz p hp) (by omega) (by omega) hn

theorem rmul_ev {a b : List Int} {m n : Nat} (ha : Is a m) (hb : Is b n) (hla : a.length ≤ 17592186044000) (hlb : b.length ≤ 17592186044000) : Evt (fun k => codewrightref01_Mul.f k a b) (enc (m * n)) := by
  unfold codewrightref01_Mul.f
  rw [wadd (by omega), Int.toNat_natCast]
  refine Evt.pos (by omega) (Evt.pos (by omega) ?_)
  exact rmul_l a b m n ha hb hla hlb a.length 0 _ (by omega) (Lim.zeros _) (by simp) (fun p _ => lzeros_getD _ _) (TimesInv.start ..)

theorem rof_ev (n : Nat) (h : n < 18446744073709551616) : Evt (fun k => codewrightref01_Of.f k n) (enc n) := by
  unfold codewrightref01_Of.f
  rw [tmodp (by omega), tdivp (by omega), wu64 (by omega) (by omega)]
  refine Evt.bind (rtrim_ev (n := n) ⟨?_, ?_⟩ (by simp)) (Evt.now _)
  · exact Lim.cons (by omega) (by omega) (Lim.cons (by omega) (by omega) Lim.nil)
  · simp only [ev_cons, ev_nil]; omega

theorem rsmall_l0 (a : List Int) (n : Nat) (d : Nat) (ha : Is a n) (hd0 : 0 < d) (hd1 : d < 4294967296) (hl : a.length ≤ 17592186044000) : ∀ (i : Nat) (out : List Int) (r : Int),
    i ≤ a.length → Lim out → out.length = a.length → (∀ p, p < i → out.getD p 0 = 0) → 0 ≤ r → r < d → DigInv a d out r i →
    Evt (fun k => codewrightref01_small.l0 k a d out r ((i : Int) - 1)) (enc (n / d)) := by
  intro i
  induction i with
  | zero =>
    intro out r hi hlim hlen hz hr0 hr1 he
    refine Evt.step (fun k => codewrightref01_small.l0.eq_2 ..) (Evt.neg (by omega) ?_)
    have h1 := he.last
    have h2 := hlim.is
    rw [ha.2, h2.2] at h1
    generalize (ev out 4294967296).toNat = q at *
    have hn : n = q * d + r.toNat := by
      have : (q : Int) * d = ((q * d : Nat) : Int) := by rw [Int.natCast_mul]
      omega
    have hq : n / d = q := by rw [hn, Nat.mul_comm, Nat.mul_add_div hd0, Nat.div_eq_of_lt (by omega)]; rfl
    rw [hq]
    exact Evt.bind (rtrim_ev h2 (by omega)) (Evt.now _)
  | succ i ih =>
    intro out r hi hlim hlen hz hr0 hr1 he
    refine Evt.step (fun k => codewrightref01_small.l0.eq_2 ..) ?_
    rw [show (((i + 1 : Nat) : Int) - 1) = (i : Int) by omega, wpred2 (by omega)]
    have hx := ha.1.getD i
    have hs := dig_small (d := (d : Int)) ⟨hr0, hr1⟩ hx (by omega)
    have hn := he.step (by omega) (hz i (by omega))
    rw [wu64n (i := d) (by omega)]
    refine Evt.pos (by omega) (Evt.pos (by omega) (Evt.pos (by omega) (Evt.neg (by omega) (Evt.pos (by omega) ?_))))
    rw [rd_nat, wu64 (x := r * 4294967296) (by omega) (by omega), wu64 hx.1 (by omega), wu64 (x := r * 4294967296 + a.getD i 0) (by omega) (by omega), Int.toNat_natCast, tdivp (by omega), tmodp (by omega), wu64 hs.1 (by omega), mod_limb hs.1 hs.2]
    exact ih _ _ (by omega) (hlim.set _ hs.1 hs.2) (by rw [List.length_set]; omega) (fun p hp => by rw [lset_ne _ _ _ _ (by omega)]; exact hz p (by omega)) (Int.emod_nonneg _ (by omega)) (Int.emod_lt_of_pos _ (by omega)) hn

theorem rsmall_ev {a : List Int} {n e d : Nat} (ha : Is a n) (he : e < 4294967296) (hd0 : 0 < d) (hd1 : d < 4294967296) (hl : a.length ≤ 1000000000) : Evt (fun k => codewrightref01_small.f k a e d) (enc (n * e / d)) := by
  unfold codewrightref01_small.f
  rw [wu64n (by omega)]
  have he1 : (enc e).length ≤ 1 := enc_length_le _ (by omega)
  have h3 : (enc (n * e)).length ≤ a.length + 1 := enc_length_le _ (by
    rw [Nat.pow_succ]; exact Nat.mul_lt_mul'' ha.lt he)
  refine Evt.bind (rof_ev e (by omega)) (Evt.bind (rmul_ev ha (enc_is e) (by omega) (by omega)) ?_)
  refine Evt.pos (by omega) (Evt.pos (by omega) ?_)
  rw [wpred2 (by omega), Int.toNat_natCast]
  exact rsmall_l0 _ (n * e) d (enc_is _) hd0 hd1 (by omega) _ _ 0 (Nat.le_refl _) (Lim.zeros _) (by simp) (fun p _ => lzeros_getD _ _) (by omega) (by omega) (DigInv.start ..)

theorem rchoose_l0 (n K : Nat) (hn : n ≤ 4096) (hK : K ≤ n) : ∀ (d i : Nat), i + d = K → Evt (fun k => codewrightref01_Choose.l0 k n K (enc (binom n i)) i) (enc (binom n K)) := by
  have hlen : ∀ j, (enc (binom n j)).length ≤ 129 := fun j => enc_length_le _ (by
    exact Nat.lt_of_le_of_lt (binom_le n j) (two_pow_lt (by omega)))
  intro d
  induction d with
  | zero =>
    intro i hi
    have : i = K := by omega
    subst this
    exact Evt.step (fun k => codewrightref01_Choose.l0.eq_2 ..) (Evt.neg (by omega) (Evt.now _))
  | succ d ih =>
    intro i hi
    have h1 := hlen i
    refine Evt.step (fun k => codewrightref01_Choose.l0.eq_2 ..) (Evt.pos (by omega) ?_)
    rw [wsub (by omega) (by omega), wsucc (by omega)]
    refine Evt.bind (rsmall_ev (enc_is _) (e := n - i) (d := i + 1) (by omega) (by omega) (by omega) (by omega)) ?_
    rw [binom_div]
    exact ih (i + 1) (by omega)
theorem rchoose_ev (n k : Nat) (hn : n ≤ 4096) : Evt (fun r => codewrightref01_Choose.f r n k) (enc (binom n k)) := by
  unfold codewrightref01_Choose.f
  refine Evt.neg (by omega) ?_
  by_cases h : k > n
  · rw [decide_eq_true (by omega : (k : Int) > n), binom_gt _ _ h, enc_zero]
    exact Evt.step (fun k => codewrightref01_Choose.j0.eq_2 ..) (Evt.pos rfl (Evt.now _))
  · rw [decide_eq_false (by omega : ¬ (k : Int) > n)]
    refine Evt.step (fun k => codewrightref01_Choose.j0.eq_2 ..) (Evt.neg (by simp) ?_)
    have h1 : ([1] : List Int) = enc (binom n 0) := by rw [binom_zero, enc_pos (by omega), Nat.div_eq_of_lt (by omega), enc_zero]; rfl
    rw [h1]
    exact rchoose_l0 n k hn (by omega) k 0 (by omega)
theorem rchoose_neg (n : Nat) (k : Int) (hk : k < 0) : Evt (fun r => codewrightref01_Choose.f r n k) [] := by
  unfold codewrightref01_Choose.f
  exact Evt.pos hk (Evt.step (fun k => codewrightref01_Choose.j0.eq_2 ..) (Evt.pos rfl (Evt.now _)))

theorem rbits_l0 (n : Nat) : ∀ t : Nat, n < 4294967296 → t + blen n ≤ 100000000000 → Evt (fun k => codewrightref01_Bits.l0 k t n) ((t + blen n : Nat) : Int) := by
  induction n using Nat.strongRecOn with
  | ind n ih =>
    intro t hn ht
    refine Evt.step (fun k => codewrightref01_Bits.l0.eq_2 ..) ?_
    by_cases h0 : n = 0
    · refine Evt.neg (by omega) (Evt.now' ?_)
      rw [h0, blen_zero]; omega
    · refine Evt.pos (by omega) ?_
      have hb := blen_half h0
      have h32 := blen_le_32 hn
      have := ih (n / 2) (by omega) (t + 1) (by omega) (by omega)
      rw [wsucc (by omega), tdivp (a := (n : Int)) (by omega), mod_limb (x := (n : Int) / 2) (Int.ediv_nonneg (by omega) (by omega)) (by omega), show (n : Int) / 2 = ((n / 2 : Nat) : Int) by omega, show t + blen n = t + 1 + blen (n / 2) by omega]
      exact this

theorem rbits_ev {xs : List Int} {m : Nat} (hx : Is xs m) (hl : xs.length ≤ 1000000000) : Evt (fun k => codewrightref01_Bits.f k xs) ((blen m : Nat) : Int) := by
  unfold codewrightref01_Bits.f
  have hle := hx.enc_length
  refine Evt.bind (rtrim_ev hx (by omega)) ?_
  by_cases h0 : m = 0
  · refine Evt.pos (by rw [h0, enc_zero]; rfl) (Evt.now' ?_)
    rw [h0]; rfl
  · obtain ⟨top, low, h1, h2, h3, h4, h5⟩ := enc_top h0
    have hp : 0 < (enc m).length := List.length_pos_iff.2 (enc_ne h0)
    have hb := blen_shift h4 (hi := top) (by omega)
    rw [← h5] at hb
    obtain ⟨L, hL⟩ : ∃ L, (enc m).length = L + 1 := ⟨(enc m).length - 1, by omega⟩
    rw [hL, Nat.add_sub_cancel] at h1 hb
    rw [hL, wpred (by omega), rd_nat, h1]
    refine Evt.neg (by omega) (Evt.pos (by omega) (Evt.pos (by omega) ?_))
    have h32 := blen_le_32 h3
    have := rbits_l0 top (32 * L) h3 (by omega)
    rw [w64 (by omega) (by omega), hb, show (32 * (L : Int)) = ((32 * L : Nat) : Int) by omega]
    exact this

theorem one_enc' : ([1] : List Int) = enc 1 := by rw [enc_pos (by omega), Nat.div_eq_of_lt (by omega), enc_zero]; rfl

/-- n without its j lowest binary digits, by one digit less -/
theorem shr_split (n d : Nat) : n / d = 2 * (n / (2 * d)) + n / d % 2 := by
  have : n / (2 * d) = n / d / 2 := by rw [Nat.mul_comm, Nat.div_div_eq_div_mul]
  rw [this]; omega

theorem rpow_l0 (m n L : Nat) (hL : L = 4096) (hn : n < 9223372036854775808) (hm : 0 < m) (hb : m ^ n < 4294967296 ^ L) (hlm : (enc m).length ≤ L) : ∀ (j : Nat), j ≤ 18 →
    Evt (fun k => codewrightref01_Pow.l0 k (enc m) n (enc (m ^ (n / (2 * 2 ^ j)))) ((2 ^ j : Nat) : Int)) (enc (m ^ n), 0) := by
  have hle : ∀ x, x ≤ n → (enc (m ^ x)).length ≤ L := fun x hx => enc_length_le _ (Nat.lt_of_le_of_lt (Nat.pow_le_pow_right hm hx) hb)
  have fin : Evt (fun k => codewrightref01_Pow.l0 k (enc m) n (enc (m ^ n)) 0) (enc (m ^ n), 0) :=
    Evt.step (fun k => codewrightref01_Pow.l0.eq_2 ..) (Evt.neg (by omega) (Evt.now _))
  intro j
  induction j with
  | zero =>
    intro _
    have e := shr_split n 1
    simp only [Nat.div_one, Nat.mul_one] at e
    have h0 := hle (n / 2) (by omega)
    refine Evt.step (fun k => codewrightref01_Pow.l0.eq_2 ..) (Evt.pos (by omega) ?_)
    refine Evt.bind (rmul_ev (enc_is _) (enc_is _) (by simp; omega) (by simp; omega)) (Evt.neg (by omega) ?_)
    rw [Nat.pow_zero, Nat.mul_one, ← Nat.pow_add]
    rw [tdivp (a := (n : Int)) (by omega), show ((n : Int) / ((1 : Nat) : Int)) = (n : Int) by omega, w64 (x := (n : Int)) (by omega) (by omega), tmodp (by omega), show Int.tdiv ((1 : Nat) : Int) 2 = 0 by rfl, w64 (by omega) (by omega)]
    have h1 := hle (n / 2 + n / 2) (by omega)
    by_cases hodd : n % 2 = 1
    · refine Evt.pos (by omega) (Evt.bind (rmul_ev (enc_is _) (enc_is _) (by omega) (by omega)) ?_)
      rw [← Nat.pow_succ, show (n / 2 + n / 2).succ = n by omega]
      have := hle n (Nat.le_refl _)
      exact Evt.neg (by omega) fin
    · refine Evt.neg (by omega) ?_
      rw [show n / 2 + n / 2 = n by omega] at *
      exact Evt.neg (by omega) fin
  | succ j ih =>
    intro hj
    have ih' := ih (by omega)
    have hp : 0 < 2 ^ (j + 1) := Nat.two_pow_pos _
    have hp18 : 2 ^ (j + 1) ≤ 2 ^ 18 := Nat.pow_le_pow_right (by omega) hj
    have hps : 2 ^ (j + 1) = 2 * 2 ^ j := by rw [Nat.pow_succ, Nat.mul_comm]
    have e := shr_split n (2 ^ (j + 1))
    have hdn : n / 2 ^ (j + 1) ≤ n := Nat.div_le_self _ _
    generalize hD : n / (2 * 2 ^ (j + 1)) = D at *
    rw [← hps] at ih'
    generalize hQ : n / 2 ^ (j + 1) = Q at *
    generalize hP : 2 ^ (j + 1) = P at *
    have h0 := hle D (by omega)
    refine Evt.step (fun k => codewrightref01_Pow.l0.eq_2 ..) (Evt.pos (by omega) ?_)
    refine Evt.bind (rmul_ev (enc_is _) (enc_is _) (by omega) (by omega)) (Evt.neg (by omega) ?_)
    rw [← Nat.pow_add, tdivp (a := (n : Int)) (by omega), ← Int.natCast_ediv, hQ, w64 (x := (Q : Int)) (by omega) (by omega), tmodp (by omega), tdivp (by omega), show ((P : Int) / 2) = ((2 ^ j : Nat) : Int) by omega, w64 (by omega) (by omega)]
    have h1 := hle (D + D) (by omega)
    by_cases hodd : Q % 2 = 1
    · refine Evt.pos (by omega) (Evt.bind (rmul_ev (enc_is _) (enc_is _) (by omega) (by omega)) ?_)
      rw [← Nat.pow_succ, show (D + D).succ = Q by omega]
      have := hle Q (by omega)
      exact Evt.neg (by omega) ih'
    · refine Evt.neg (by omega) ?_
      rw [show D + D = Q by omega] at *
      exact Evt.neg (by omega) ih'

theorem rpow_ev {a : List Int} {m : Nat} (ha : Is a m) (hl : a.length ≤ 1000000000) (e : Nat) (L : Nat) (hL : L = 4096) (he : e < 9223372036854775808) (h : m ≤ 1 ∨ m ^ e < 4294967296 ^ L) :
    Evt (fun k => codewrightref01_Pow.f k a e) (enc (m ^ e), 0) := by
  unfold codewrightref01_Pow.f
  have hle := ha.enc_length
  refine Evt.neg (by omega) (Evt.bind (rtrim_ev ha (by omega)) ?_)
  by_cases h0 : e = 0
  · subst h0
    exact Evt.pos (by omega) (Evt.now' (by rw [one_enc', Nat.pow_zero]))
  refine Evt.neg (by omega) (Evt.bind (rbits_ev (enc_is m) (by omega)) ?_)
  by_cases h1 : m ≤ 1
  · have hb : blen m ≤ 1 := by
      have := blen_le_32 (n := m) (by omega)
      rcases (by omega : m = 0 ∨ m = 1) with h | h <;> subst h <;> decide
    refine Evt.pos (by omega) (Evt.now' ?_)
    rcases (by omega : m = 0 ∨ m = 1) with h | h
    · subst h; rw [Nat.zero_pow (by omega)]
    · subst h; rw [Nat.one_pow]
  have hb : m ^ e < 4294967296 ^ L := by rcases h with h | h; omega; exact h
  have hb1 : ¬ blen m ≤ 1 := by
    intro hb1
    rcases (by omega : blen m = 0 ∨ blen m = 1) with h2 | h2
    · have := (blen_zero_iff m).1 h2; omega
    · have := (blen_one_iff m).1 h2; omega
  have h4 : e < 32 * L := by
    apply (Nat.pow_lt_pow_iff_right (by omega : 1 < 2)).1
    rw [Nat.pow_mul]
    exact Nat.lt_of_le_of_lt (Nat.pow_le_pow_left (by omega) e) hb
  have hlm : (enc m).length ≤ L := enc_length_le _ (Nat.lt_of_le_of_lt (Nat.le_self_pow (by omega) m) hb)
  refine Evt.neg (by omega) (Evt.neg (by omega) ?_)
  have := rpow_l0 m e L hL he (by omega) hb hlm 18 (by omega)
  rw [show e / (2 * 2 ^ 18) = 0 by omega, Nat.pow_zero, ← one_enc'] at this
  exact this
end Go.Proofs.Ytmihelfhofebpaa.BoundsGilbertC
