/- Wraps of integers that fit, and reads of lists, as the printed functions write them. -/
import Derived.RowKit
import Derived.Laws.BitsLemmas
import Derived.Test.YtjignpnnmfdedaaQBoundsBallsWMore
import Derived.Test.YtjignpnnmfdedaaQBoundsBallsLib
import Derived.Test.YtjignpnnmfdedaaQBoundsBallsx
namespace Go.Proofs.Ytjignpnnmfdedaa.BoundsBallsC
open Go.RowKit Go Go.Proofs.YtjignpnnmfdedaaW.PrintWords Go.Proofs.YtjignpnnmfdedaaW.PrintLast Go.Proofs.YtjignpnnmfdedaaW.PrintMore Cw
theorem w64 {x : Int} (h0 : -9223372036854775808 ≤ x) (h1 : x ≤ 9223372036854775807) : wrap64 x = x := by unfold wrap64; omega
theorem wu64 {x : Int} (h0 : 0 ≤ x) (h1 : x < 18446744073709551616) : IntKind.u64.wrap x = x := by
  simp only [IntKind.wrap, IntKind.bits, IntKind.signed]; simp; omega
theorem wadd {i j : Nat} (h : i + j ≤ 9223372036854775807) : wrap64 ((i : Int) + (j : Int)) = ((i + j : Nat) : Int) := by rw [w64 (by omega) (by omega)]; omega
theorem wsucc {i : Nat} (h : i < 9223372036854775807) : wrap64 ((i : Int) + 1) = ((i + 1 : Nat) : Int) := by rw [w64 (by omega) (by omega)]; omega
theorem wpred {i : Nat} (h : i < 9223372036854775807) : wrap64 (((i + 1 : Nat) : Int) - 1) = (i : Int) := by rw [w64 (by omega) (by omega)]; omega
theorem wpred2 {i : Nat} (h : i < 9223372036854775807) : wrap64 ((i : Int) - 1) = (i : Int) - 1 := by rw [w64 (by omega) (by omega)]
theorem wsub {i j : Nat} (h : i < 9223372036854775807) (hj : j ≤ i) : wrap64 ((i : Int) - (j : Int)) = ((i - j : Nat) : Int) := by rw [w64 (by omega) (by omega)]; omega
theorem wnat {i : Nat} (h : i ≤ 9223372036854775807) : wrap64 (i : Int) = (i : Int) := w64 (by omega) (by omega)
theorem wu64n {i : Nat} (h : i < 18446744073709551616) : IntKind.u64.wrap (i : Int) = (i : Int) := wu64 (by omega) (by omega)
/- No equation on a wrap may stand in a context in which omega is called: two such atoms are compared by unfolding. -/
theorem wraps_u64 (n : Int) (h0 : 0 ≤ n) (h1 : n < 2 ^ 64) : IntKind.u64.wrap n = n := wu64 h0 (by simpa using h1)
theorem wraps_i64 (n : Int) (h0 : 0 ≤ n) (h1 : n < 2 ^ 63) : IntKind.i64.wrap n = n := by
  rw [IntKind.wrap_i64]; omega
/-- a limb above a limb -/
theorem or_limb {x y : Int} (hx : 0 ≤ x ∧ x < 4294967296) (hy : 0 ≤ y ∧ y < 4294967296) : Go.bits .or .u64 (x * 4294967296) y = x * 4294967296 + y :=
  bits_join .u64 64 (by decide) wraps_u64 32 _ _ (by omega) (by omega) (by omega) hy.1 (by omega) (by omega)
theorem and_one {x : Int} (h0 : 0 ≤ x) (h1 : x < 9223372036854775808) : Go.bits .and .i64 x 1 = x % 2 :=
  bits_mask .i64 63 (by decide) wraps_i64 1 (by decide) x h0 (by simpa using h1)
theorem mn_eq (a b : Int) : mn a b = if b < a then b else a := rfl
theorem rd_nat (xs : List Int) (i : Nat) : rd xs (i : Int) = xs.getD i 0 := rfl
theorem tdivp {a b : Int} (h : 0 ≤ a) : Int.tdiv a b = a / b := Int.tdiv_eq_ediv_of_nonneg h
theorem tmodp {a b : Int} (h : 0 ≤ a) : Int.tmod a b = a % b := Int.tmod_eq_emod_of_nonneg h
/-- a limb is its own remainder -/
theorem mod_limb {x : Int} (h0 : 0 ≤ x) (h1 : x < 4294967296) : x % 4294967296 = x := Int.emod_eq_of_lt h0 h1
end Go.Proofs.Ytjignpnnmfdedaa.BoundsBallsC
/- What the printed reference functions on fields compute: Order, prime, digits, divides, irreducible, Check, In, Digits, Value. -/
namespace Go.Proofs.Ytjignpnnmfdedaa.BoundsBallsC
open Go.RowKit Go.Proofs.Ytjignpnnmfdedaa.PBoundsBalls Go.Proofs.YtjignpnnmfdedaaW.PrintWords Go.Proofs.YtjignpnnmfdedaaW.PrintLast Go.Proofs.YtjignpnnmfdedaaW.PrintMore Cw
/-- what Order answers: 0, or the power -/
def IsOrd (P M o : Int) : Prop := o = 0 ∨ (2 ≤ P ∧ 1 ≤ M ∧ M ≤ 8 ∧ o = P ^ M.toNat ∧ o ≤ 256)
theorem order_l0 (P M : Int) (mod : List Int) (hP : 2 ≤ P) (hM : 1 ≤ M) (hM8 : M ≤ 8) : ∀ (d i : Nat) (q : Int), (i : Int) + d = M → q = P ^ i → q ≤ 256 →
    ∃ o, Evt (fun k => codewrightref04_Order.l0 k q (i : Int) P M mod) o ∧ IsOrd P M o := by
  intro d
  induction d with
  | zero =>
    intro i q hi hq hq2
    refine ⟨q, Evt.step (fun k => codewrightref04_Order.l0.eq_2 ..) (Evt.neg (by omega) (Evt.now _)), .inr ⟨hP, hM, hM8, ?_, hq2⟩⟩
    rw [hq]; congr 1; omega
  | succ d ih =>
    intro i q hi hq hq2
    have hdiv : 0 ≤ (256 : Int) / P ∧ (256 : Int) / P ≤ 256 := ⟨Int.ediv_nonneg (by omega) (by omega), Int.ediv_le_self _ (by omega)⟩
    have hw : wrap64 (Int.tdiv 256 P) = 256 / P := by rw [tdivp (by omega), w64 (by omega) (by omega)]
    by_cases hgt : q > 256 / P
    · refine ⟨0, Evt.step (fun k => codewrightref04_Order.l0.eq_2 ..) (Evt.pos (by omega) (Evt.neg (by omega) (Evt.pos ?_ (Evt.now _)))), .inl rfl⟩
      rw [hw]; exact hgt
    · have hq0 : 0 ≤ q := by rw [hq]; exact Int.pow_nonneg (by omega)
      have hmul : q * P ≤ 256 := by
        have h1 : q * P ≤ 256 / P * P := Int.mul_le_mul_of_nonneg_right (by omega) (by omega)
        have h2 : 256 / P * P ≤ 256 := Int.ediv_mul_le 256 (by omega)
        omega
      have hmul0 : 0 ≤ q * P := Int.mul_nonneg hq0 (by omega)
      obtain ⟨o, ho, hz⟩ := ih (i + 1) (q * P) (by omega) (by rw [hq, Int.pow_succ]) hmul
      refine ⟨o, Evt.step (fun k => codewrightref04_Order.l0.eq_2 ..) (Evt.pos (by omega) (Evt.neg (by omega) (Evt.neg ?_ ?_))), hz⟩
      · rw [hw]; exact hgt
      · rw [w64 (x := q * P) (by omega) (by omega), wsucc (by omega)]; exact ho
theorem order_ev (P M : Int) (mod : List Int) : ∃ o, Evt (fun k => codewrightref04_Order.f k P M mod) o ∧ IsOrd P M o := by
  unfold codewrightref04_Order.f
  have bad : Evt (fun k => codewrightref04_Order.j0 k true P M mod) 0 := Evt.step (fun k => codewrightref04_Order.j0.eq_2 ..) (Evt.pos rfl (Evt.now _))
  by_cases h1 : P < 2
  · exact ⟨0, Evt.pos h1 bad, .inl rfl⟩
  · by_cases h2 : M < 1
    · exact ⟨0, Evt.neg h1 (Evt.pos h2 bad), .inl rfl⟩
    · by_cases h3 : M > 8
      · refine ⟨0, Evt.neg h1 (Evt.neg h2 ?_), .inl rfl⟩
        rw [decide_eq_true h3]; exact bad
      · obtain ⟨o, ho, hz⟩ := order_l0 P M mod (by omega) (by omega) (by omega) M.toNat 0 1 (by omega) (by simp) (by omega)
        refine ⟨o, Evt.neg h1 (Evt.neg h2 ?_), hz⟩
        rw [decide_eq_false h3]
        exact Evt.step (fun k => codewrightref04_Order.j0.eq_2 ..) (Evt.neg (by simp) ho)
theorem prime_l0 (P : Nat) (hP : P ≤ 1000) : ∀ (e d : Nat), d + e = P → 2 ≤ d → (∀ c, 2 ≤ c → c < d → ¬ c ∣ P) → ∃ b, Evt (fun k => codewrightref04_prime.l0 k (P : Int) (d : Int)) b ∧ (b = true → ∀ c, 2 ≤ c → c < P → ¬ c ∣ P) := by
  intro e
  induction e with
  | zero =>
    intro d hd h2 h
    have : d = P := by omega
    subst this
    exact ⟨true, Evt.step (fun k => codewrightref04_prime.l0.eq_2 ..) (Evt.neg (by omega) (Evt.now _)), fun _ => h⟩
  | succ e ih =>
    intro d hd h2 h
    have hm : Int.tmod (P : Int) (d : Int) = ((P % d : Nat) : Int) := by rw [tmodp (by omega), Int.natCast_emod]
    by_cases hdv : d ∣ P
    · refine ⟨false, Evt.step (fun k => codewrightref04_prime.l0.eq_2 ..) (Evt.pos (by omega) (Evt.neg (by omega) (Evt.pos ?_ (Evt.now _)))), fun h => by simp at h⟩
      rw [hm, Nat.mod_eq_zero_of_dvd hdv]; rfl
    · obtain ⟨b, hb, hz⟩ := ih (d + 1) (by omega) (by omega) (fun c h2 hc => by
        by_cases hcd : c = d
        · rw [hcd]; exact hdv
        · exact h c h2 (by omega))
      refine ⟨b, Evt.step (fun k => codewrightref04_prime.l0.eq_2 ..) (Evt.pos (by omega) (Evt.neg (by omega) (Evt.neg ?_ ?_))), hz⟩
      · rw [hm]
        intro h0
        exact hdv (Nat.dvd_of_mod_eq_zero (by omega))
      · rw [wsucc (by omega)]; exact hb
theorem prime_ev (P : Nat) (h2 : 2 ≤ P) (hP : P ≤ 1000) : ∃ b, Evt (fun k => codewrightref04_prime.f k (P : Int)) b ∧ (b = true → ∀ c, 2 ≤ c → c < P → ¬ c ∣ P) :=
  prime_l0 P hP (P - 2) 2 (by omega) (by omega) (fun c h1 h2 => by omega)
theorem digits_l0 (p : Int) (n : Nat) (hp : 2 ≤ p) (hp2 : p ≤ 256) (hn : n ≤ 1000) : ∀ (d i : Nat) (x : Int) (out : List Int), i + d = n → 0 ≤ x → x < 9223372036854775808 → out.length = n →
    Evt (fun k => codewrightref04_digits.l0 k x p n out (i : Int)) (out.take i ++ digs p d x) := by
  intro d
  induction d with
  | zero =>
    intro i x out hi hx0 hx1 hl
    refine Evt.step (fun k => codewrightref04_digits.l0.eq_2 ..) (Evt.neg (by omega) (Evt.now' ?_))
    rw [List.take_of_length_le (by omega), digs, List.append_nil]
  | succ d ih =>
    intro i x out hi hx0 hx1 hl
    refine Evt.step (fun k => codewrightref04_digits.l0.eq_2 ..) (Evt.pos (by omega) (Evt.neg (by omega) (Evt.pos (by omega) (Evt.pos (by omega) ?_))))
    have h0 : 0 ≤ x / p := Int.ediv_nonneg hx0 (by omega)
    have h1 : x / p ≤ x := Int.ediv_le_self _ hx0
    rw [tdivp hx0, tmodp hx0, w64 (x := x / p) (by omega) (by omega), wsucc (by omega), Int.toNat_natCast]
    have := ih (i + 1) (x / p) (out.set i (x % p)) (by omega) h0 (by omega) (by rw [List.length_set]; exact hl)
    have e : (out.set i (x % p)).take (i + 1) ++ digs p d (x / p) = out.take i ++ digs p (d + 1) x := by
      rw [List.take_add_one, List.take_set_of_le (Nat.le_refl i), List.getElem?_set_self (by omega), digs]
      simp
    rw [e] at this
    exact this
theorem digits_ev (p : Int) (n : Nat) (x : Int) (hp : 2 ≤ p) (hp2 : p ≤ 256) (hn : n ≤ 1000) (hx0 : 0 ≤ x) (hx1 : x < 9223372036854775808) : Evt (fun k => codewrightref04_digits.f k x p n) (digs p n x) := by
  unfold codewrightref04_digits.f
  refine Evt.pos (by omega) (Evt.pos (by omega) ?_)
  have := digits_l0 p n hp hp2 hn n 0 x (List.replicate n 0) (by omega) hx0 hx1 (by simp)
  rw [List.take_zero, List.nil_append] at this
  rw [Int.toNat_natCast]
  exact this
/-- a step of a reduction: entry z of x, less a multiple of a low coefficient -/
theorem red_entry {p x c l : Int} (hp : 2 ≤ p ∧ p ≤ 256) (hx : 0 ≤ x ∧ x < p) (hc : 0 ≤ c ∧ c < p) (hl : 0 ≤ l ∧ l < p) :
    Int.tmod (wrap64 (x + wrap64 (wrap64 (p - c) * l))) p = (x + (p - c) * l) % p ∧ 0 ≤ (x + (p - c) * l) % p ∧ (x + (p - c) * l) % p < p := by
  have h0 : 0 ≤ (p - c) * l := Int.mul_nonneg (by omega) (by omega)
  have h1 : (p - c) * l ≤ 256 * 256 := by
    have a : (p - c) * l ≤ 256 * l := Int.mul_le_mul_of_nonneg_right (by omega) (by omega)
    omega
  rw [w64 (x := p - c) (by omega) (by omega), w64 (x := (p - c) * l) (by omega) (by omega), w64 (x := x + (p - c) * l) (by omega) (by omega), tmodp (by omega)]
  exact ⟨rfl, Int.emod_nonneg _ (by omega), Int.emod_lt_of_pos _ (by omega)⟩
/-- entries from 0 to p - 1 -/
def Ent (p : Int) (r : List Int) : Prop := ∀ c ∈ r, 0 ≤ c ∧ c < p
theorem Ent.getD {p : Int} {r : List Int} (h : Ent p r) (hp : 0 < p) (i : Nat) : 0 ≤ r.getD i 0 ∧ r.getD i 0 < p := Red.getD (M := r.length) ⟨rfl, h⟩ hp i
theorem Ent.set {p : Int} {r : List Int} (h : Ent p r) (i : Nat) {v : Int} (h0 : 0 ≤ v) (h1 : v < p) : Ent p (r.set i v) := by
  intro c hc
  rcases List.mem_or_eq_of_mem_set hc with h' | h'
  · exact h c h'
  · rw [h']; exact ⟨h0, h1⟩
theorem ev_set' (t : Int) (xs : List Int) (i : Nat) (v : Int) (h : i < xs.length) : ev (xs.set i v) t = ev xs t + (v - xs.getD i 0) * t ^ i := ev_set t xs i v h
/-- j low coefficients times c are taken off at place i - d -/
def RedInv (p : Int) (low r0 r : List Int) (c : Int) (s j : Nat) : Prop :=
  ∃ u : List Int, ∀ t, ev r t = ev r0 t + (p - c) * t ^ s * ev (low.take j) t + p * ev u t
theorem RedInv.start (p : Int) (low r : List Int) (c : Int) (s : Nat) : RedInv p low r r c s 0 := ⟨[], fun t => by simp⟩
theorem RedInv.step {p c : Int} {low r0 r : List Int} {s j : Nat} (h : RedInv p low r0 r c s j) (hs : s + j < r.length) :
    RedInv p low r0 (r.set (s + j) ((r.getD (s + j) 0 + (p - c) * low.getD j 0) % p)) c s (j + 1) := by
  obtain ⟨u, hu⟩ := h
  have e1 := Int.emod_add_mul_ediv (r.getD (s + j) 0 + (p - c) * low.getD j 0) p
  generalize (r.getD (s + j) 0 + (p - c) * low.getD j 0) / p = q at *
  refine ⟨padd u (List.replicate (s + j) 0 ++ [-q]), fun t => ?_⟩
  rw [ev_set' _ _ _ _ hs, hu t, ev_take_succ', ev_padd, ev_append, ev_replicate_zero, List.length_replicate]
  simp only [ev_cons, ev_nil, Int.mul_zero, Int.add_zero, Int.zero_add]
  generalize (r.getD (s + j) 0 + (p - c) * low.getD j 0) % p = m at *
  have e2 : m = r.getD (s + j) 0 + (p - c) * low.getD j 0 - p * q := by omega
  rw [e2, Int.pow_add]
  generalize t ^ s = A
  generalize t ^ j = B
  generalize ev (low.take j) t = L
  generalize ev r0 t = R
  generalize ev u t = X
  generalize r.getD (s + j) 0 = y
  generalize low.getD j 0 = z
  clear hu e1 e2
  grind
/-- the top entry falls away -/
theorem RedInv.cong {p c : Int} {low r0 r : List Int} {s : Nat} (h : RedInv p low r0 r c s low.length) (hs : s + low.length < r.length) (hc : r.getD (s + low.length) 0 = c) :
    Cong p low (r.set (s + low.length) 0) r0 := by
  obtain ⟨u, hu⟩ := h
  refine ⟨List.replicate s 0 ++ [-c], padd u (List.replicate s 0 ++ low), fun t => ?_⟩
  rw [ev_set' _ _ _ _ hs, hu t, List.take_length, hc, ev_append low, ev_append (List.replicate s 0), ev_padd, ev_append (List.replicate s 0), ev_replicate_zero, List.length_replicate, Int.pow_add]
  simp only [ev_cons, ev_nil, Int.mul_zero, Int.add_zero, Int.zero_add]
  generalize t ^ s = A
  generalize t ^ low.length = B
  generalize ev low t = L
  generalize ev r0 t = R
  generalize ev u t = X
  clear hu
  grind
theorem divides_l2 (r : List Int) (hl : r.length ≤ 1000) : ∀ (e i : Nat), i + e = r.length → (∀ j, j < i → r.getD j 0 = 0) → ∃ b, Evt (fun k => codewrightref04_divides.l2 k r (i : Int)) b ∧ (b = true ↔ ∀ j, j < r.length → r.getD j 0 = 0) := by
  intro e
  induction e with
  | zero =>
    intro i hi h
    exact ⟨true, Evt.step (fun k => codewrightref04_divides.l2.eq_2 ..) (Evt.neg (by omega) (Evt.now _)), fun _ j hj => h j (by omega), fun _ => rfl⟩
  | succ e ih =>
    intro i hi h
    by_cases h0 : r.getD i 0 = 0
    · obtain ⟨b, hb, hz⟩ := ih (i + 1) (by omega) (fun j hj => by
        by_cases hji : j = i
        · rw [hji]; exact h0
        · exact h j (by omega))
      refine ⟨b, Evt.step (fun k => codewrightref04_divides.l2.eq_2 ..) (Evt.pos (by omega) (Evt.pos (by omega) (Evt.pos h0 ?_))), hz⟩
      rw [wsucc (by omega)]; exact hb
    · exact ⟨false, Evt.step (fun k => codewrightref04_divides.l2.eq_2 ..) (Evt.pos (by omega) (Evt.pos (by omega) (Evt.neg h0 (Evt.now _)))), fun h => by simp at h, fun hz => absurd (hz i (by omega)) h0⟩
theorem divides_l1 (p : Int) (low : List Int) (d i : Nat) (hp : 2 ≤ p ∧ p ≤ 256) (hlow : Red p d low) (hd : 1 ≤ d) (hdi : d ≤ i) (r0 : List Int) (hi : i < r0.length) (hl : r0.length ≤ 1000) (c : Int) (hc : 0 ≤ c ∧ c < p) (Q : Bool → Prop)
    (next : ∀ r, Ent p r → r.length = r0.length → RedInv p low r0 r c (i - d) d → (∀ z, i ≤ z → r.getD z 0 = r0.getD z 0) → ∃ b, Evt (fun k => codewrightref04_divides.l0 k low p d (r.set i 0) ((i : Int) - 1)) b ∧ Q b) : ∀ (e j : Nat) (r : List Int), j + e = d → Ent p r → r.length = r0.length →
    RedInv p low r0 r c (i - d) j → (∀ z, i ≤ z → r.getD z 0 = r0.getD z 0) → ∃ b, Evt (fun k => codewrightref04_divides.l1 k low p d r (i : Int) c (j : Int)) b ∧ Q b := by
  intro e
  induction e with
  | zero =>
    intro j r hj hr hrl hinv hz
    have hjd : j = d := by omega
    subst hjd
    obtain ⟨b, hb, hq⟩ := next r hr hrl hinv hz
    refine ⟨b, Evt.step (fun k => codewrightref04_divides.l1.eq_2 ..) (Evt.neg (by omega) (Evt.pos (by omega) (Evt.pos (by omega) ?_))), hq⟩
    rw [Int.toNat_natCast, wpred2 (by omega)]
    exact hb
  | succ e ih =>
    intro j r hj hr hrl hinv hz
    have hx := hr.getD (by omega) (i - d + j)
    have hl := hlow.getD (by omega) j
    obtain ⟨e1, e2, e3⟩ := red_entry hp hx hc hl
    have hll := hlow.1
    obtain ⟨b, hb, hq⟩ := ih (j + 1) (r.set (i - d + j) ((r.getD (i - d + j) 0 + (p - c) * low.getD j 0) % p)) (by omega) (hr.set _ e2 e3) (by rw [List.length_set]; exact hrl) (hinv.step (by omega))
      (fun z hz' => by rw [lset_ne _ _ _ _ (by omega)]; exact hz z hz')
    refine ⟨b, Evt.step (fun k => codewrightref04_divides.l1.eq_2 ..) (Evt.pos (by omega) ?_), hq⟩
    rw [wsub (i := i) (j := d) (by omega) hdi, wadd (by omega), wsucc (by omega)]
    refine Evt.pos (by omega) (Evt.pos (by omega) (Evt.pos (by omega) (Evt.pos (by omega) (Evt.neg (by omega) ?_))))
    rw [rd_nat, rd_nat, Int.toNat_natCast, e1]
    exact hb
theorem divides_l0 (p : Int) (low : List Int) (d : Nat) (hp : 2 ≤ p ∧ p ≤ 256) (hlow : Red p d low) (hd : 1 ≤ d) (m : List Int) (hl : m.length ≤ 1000) : ∀ (i : Nat) (r : List Int), d ≤ i → i ≤ r.length → r.length = m.length → Ent p r → Cong p low r m → (∀ z, i ≤ z → r.getD z 0 = 0) →
    ∃ b, Evt (fun k => codewrightref04_divides.l0 k low p d r ((i : Int) - 1)) b ∧ (b = true ↔ Cong p low m []) := by
  intro i
  have fin : ∀ (r : List Int), r.length = m.length → Ent p r → Cong p low r m → (∀ z, d ≤ z → r.getD z 0 = 0) → ∃ b, Evt (fun k => codewrightref04_divides.l0 k low p d r ((d : Int) - 1)) b ∧ (b = true ↔ Cong p low m []) := by
    intro r hrl hr hcong hz
    obtain ⟨b, hb, hq⟩ := divides_l2 r (by omega) r.length 0 (by omega) (fun j hj => by omega)
    refine ⟨b, Evt.step (fun k => codewrightref04_divides.l0.eq_2 ..) (Evt.neg (by omega) hb), hq.trans ⟨fun h => ?_, fun h j hj => ?_⟩⟩
    · have hall : ∀ c ∈ r, c = 0 := fun c hc => by
        obtain ⟨j, hj, rfl⟩ := List.mem_iff_getElem.1 hc
        have := h j hj
        rw [List.getD_eq_getElem?_getD, List.getElem?_eq_getElem hj] at this
        exact this
      exact hcong.symm.trans (Cong.of_ev fun t => by rw [ev_zeros r hall, ev_nil])
    · -- the rest is reduced and congruent to 0
      by_cases hjd : d ≤ j
      · exact hz j hjd
      · have hlen : r.length = d + (r.length - d) ∨ r.length < d := by omega
        have h1 : Cong p low r [] := hcong.trans h
        have hdr : Cong p low (digs p d (ev (r ++ List.replicate d 0 |>.take d) p)) [] := by
          have hred : Red p d ((r ++ List.replicate d 0).take d) := ⟨by rw [List.length_take, List.length_append, List.length_replicate]; omega, fun c hc => by
            rcases List.mem_append.1 (List.mem_of_mem_take hc) with h' | h'
            · exact hr c h'
            · rw [List.eq_of_mem_replicate h']; omega⟩
          rw [digs_ev (by omega) hred]
          refine Cong.trans (Cong.of_ev fun t => ?_) h1
          have e1 : ev ((r ++ List.replicate d 0).take d) t = ev (r ++ List.replicate d 0) t := ev_drop_zeros t _ d (fun z h1 h2 => by
            by_cases hzr : z < r.length
            · rw [getD_append_left' _ _ _ hzr]; exact hz z h1
            · rw [getD_append_right' _ _ _ (by omega), lzeros_getD])
          rw [e1, ev_append, ev_replicate_zero, Int.mul_zero, Int.add_zero]
        have hred : Red p d ((r ++ List.replicate d 0).take d) := ⟨by rw [List.length_take, List.length_append, List.length_replicate]; omega, fun c hc => by
          rcases List.mem_append.1 (List.mem_of_mem_take hc) with h' | h'
          · exact hr c h'
          · rw [List.eq_of_mem_replicate h']; omega⟩
        rw [digs_ev (by omega) hred] at hdr
        have hz0 : Red p low.length (List.replicate d 0) := ⟨by rw [List.length_replicate, hlow.1], fun c hc => by rw [List.eq_of_mem_replicate hc]; omega⟩
        have heq := Cong.eq (by omega) (hlow.1 ▸ hred) hz0 (hdr.trans (Cong.of_ev fun t => by rw [ev_replicate_zero, ev_nil]))
        have h2 : ((r ++ List.replicate d 0).take d).getD j 0 = r.getD j 0 := by
          rw [List.getD_eq_getElem?_getD, List.getElem?_take, if_pos (by omega), ← List.getD_eq_getElem?_getD, getD_append_left' _ _ _ hj]
        rw [← h2, heq, lzeros_getD]
  induction i with
  | zero => intro r hdi; omega
  | succ i ih =>
    intro r hdi hil hrl hr hcong hz
    by_cases hd2 : d = i + 1
    · have := fin r hrl hr hcong (fun z hz' => hz z (by omega))
      rw [hd2] at this ⊢
      exact this
    · have hci := hr.getD (by omega) i
      have hll := hlow.1
      obtain ⟨b, hb, hq⟩ := divides_l1 p low d i hp hlow hd (by omega) r (by omega) (by omega) (r.getD i 0) hci (fun b => b = true ↔ Cong p low m []) (fun r' hr' hrl' hinv hz' => by
        refine ih (r'.set i 0) (by omega) (by rw [List.length_set]; omega) (by rw [List.length_set]; omega) (hr'.set _ (by omega) (by omega)) ?_ (fun z hzi => ?_)
        · have hinv' : RedInv p low r r' (r.getD i 0) (i - d) low.length := by rw [hll]; exact hinv
          have h1 := hinv'.cong (by omega) (by rw [show i - d + low.length = i by omega]; exact hz' i (Nat.le_refl _))
          rw [show i - d + low.length = i by omega] at h1
          exact h1.trans hcong
        · by_cases hzi' : z = i
          · rw [hzi', lset_self _ _ _ (by omega)]
          · rw [lset_ne _ _ _ _ (by omega), hz' z (by omega)]; exact hz z (by omega)) d 0 r (by omega) hr rfl (RedInv.start ..) (fun z _ => rfl)
      refine ⟨b, Evt.step (fun k => codewrightref04_divides.l0.eq_2 ..) ?_, hq⟩
      rw [show (((i + 1 : Nat) : Int) - 1) = (i : Int) by omega]
      refine Evt.pos (by omega) (Evt.pos (by omega) (Evt.pos (by omega) ?_))
      rw [rd_nat]
      exact hb
theorem divides_ev (p : Int) (low mod : List Int) (d : Nat) (hp : 2 ≤ p ∧ p ≤ 256) (hlow : Red p d low) (hd : 1 ≤ d) (hm : Ent p mod) (hl : mod.length ≤ 100) (hdm : d ≤ mod.length) :
    ∃ b, Evt (fun k => codewrightref04_divides.f k low mod p) b ∧ (b = true ↔ Cong p low (mod ++ [1]) []) := by
  have hE : Ent p (mod ++ [1]) := fun c hc => by
    rcases List.mem_append.1 hc with h | h
    · exact hm c h
    · have : c = 1 := by simpa using h
      omega
  obtain ⟨b, hb, hq⟩ := divides_l0 p low d hp hlow hd (mod ++ [1]) (by simp; omega) (mod ++ [1]).length (mod ++ [1]) (by simp; omega) (Nat.le_refl _) rfl hE (Cong.refl ..) (fun z hz => getD_none' _ _ hz)
  refine ⟨b, ?_, hq⟩
  unfold codewrightref04_divides.f
  refine Evt.bind0 rfl (Evt.pos (by simp; omega) (Evt.bind0 rfl (Evt.pos (by simp; omega) (Evt.bind0 rfl ?_))))
  rw [List.nil_append, wpred2 (by simp; omega), hlow.1]
  exact hb
/-- no monic divisor of a degree up to half -/
def NoDiv (p : Int) (mod : List Int) (D : Nat) : Prop := ∀ d, 1 ≤ d → d < D → ∀ v : Nat, (v : Int) < p ^ d → ¬ Cong p (digs p d v) (mod ++ [1]) []
theorem irreducible_l1 (p : Int) (mod : List Int) (d : Nat) (hp : 2 ≤ p ∧ p ≤ 256) (hm : Ent p mod) (hl : mod.length ≤ 8) (hd : 1 ≤ d) (hdm : d ≤ mod.length) (C : Nat) (hC : (C : Int) = p ^ d) (hC2 : C ≤ 256) (Q : Bool → Prop)
    (next : (∀ v : Nat, v < C → ¬ Cong p (digs p d v) (mod ++ [1]) []) → ∃ b, Evt (fun k => codewrightref04_irreducible.l0 k mod p C ((d + 1 : Nat) : Int)) b ∧ Q b) (bad : Q false) : ∀ (e v : Nat), v + e = C →
    (∀ u : Nat, u < v → ¬ Cong p (digs p d u) (mod ++ [1]) []) → ∃ b, Evt (fun k => codewrightref04_irreducible.l1 k mod p C d (v : Int)) b ∧ Q b := by
  intro e
  induction e with
  | zero =>
    intro v hv h
    obtain ⟨b, hb, hq⟩ := next (fun u hu => h u (by omega))
    refine ⟨b, Evt.step (fun k => codewrightref04_irreducible.l1.eq_2 ..) (Evt.neg (by omega) ?_), hq⟩
    rw [wsucc (by omega)]; exact hb
  | succ e ih =>
    intro v hv h
    obtain ⟨b0, hb0, hq0⟩ := divides_ev p (digs p d v) mod d hp (digs_red (by omega) d v) hd hm (by omega) hdm
    have hdig := digits_ev p d v hp.1 hp.2 (by omega) (by omega) (by omega)
    cases b0 with
    | true => exact ⟨false, Evt.step (fun k => codewrightref04_irreducible.l1.eq_2 ..) (Evt.pos (by omega) (Evt.bind hdig (Evt.bind hb0 (Evt.pos rfl (Evt.now _))))), bad⟩
    | false =>
      obtain ⟨b, hb, hq⟩ := ih (v + 1) (by omega) (fun u hu => by
        by_cases huv : u = v
        · rw [huv]; exact fun h => by simp at hq0; exact hq0 h
        · exact h u (by omega))
      refine ⟨b, Evt.step (fun k => codewrightref04_irreducible.l1.eq_2 ..) (Evt.pos (by omega) (Evt.bind hdig (Evt.bind hb0 (Evt.neg (by simp) ?_)))), hq⟩
      rw [wsucc (by omega)]; exact hb
theorem irreducible_l0 (p : Int) (mod : List Int) (hp : 2 ≤ p ∧ p ≤ 256) (hm : Ent p mod) (hl : mod.length ≤ 8) (hpow : p ^ mod.length ≤ 256) : ∀ (e d : Nat) (C : Nat), d + e = 10 → 1 ≤ d → (d ≤ mod.length + 1) → (C : Int) = p ^ (d - 1) →
    NoDiv p mod d → ∃ b, Evt (fun k => codewrightref04_irreducible.l0 k mod p C (d : Int)) b ∧ (b = true → NoDiv p mod (mod.length / 2 + 1)) := by
  intro e
  induction e with
  | zero =>
    intro d C hd h1 hdl hC h
    exfalso; omega
  | succ e ih =>
    intro d C hd h1 hdl hC h
    have hw : wrap64 (2 * (d : Int)) = ((2 * d : Nat) : Int) := by rw [w64 (by omega) (by omega)]; omega
    by_cases hle : 2 * d ≤ mod.length
    · have hmono : p ^ d ≤ p ^ mod.length := by
        obtain ⟨P, rfl⟩ := Int.eq_ofNat_of_zero_le (by omega : 0 ≤ p)
        have : P ^ d ≤ P ^ mod.length := Nat.pow_le_pow_right (by omega) (by omega)
        have := Int.ofNat_le.2 this
        rw [Int.natCast_pow, Int.natCast_pow] at this
        exact this
      have hpos : 0 ≤ p ^ d := Int.pow_nonneg (by omega)
      have hCp : (C : Int) * p = p ^ d := by
        rw [hC, ← Int.pow_succ, Nat.succ_eq_add_one, Nat.sub_add_cancel h1]
      obtain ⟨C', hC'⟩ : ∃ C' : Nat, (C' : Int) = p ^ d := ⟨(p ^ d).toNat, by omega⟩
      obtain ⟨b, hb, hq⟩ := irreducible_l1 p mod d hp hm hl h1 (by omega) C' hC' (by omega) (fun b => b = true → NoDiv p mod (mod.length / 2 + 1)) (fun hall => ih (d + 1) C' (by omega) (by omega) (by omega) (by rw [Nat.add_sub_cancel]; exact hC') (fun d' h1' hd' v hv => by
        by_cases hdd : d' = d
        · subst hdd; exact hall v (by omega)
        · exact h d' h1' (by omega) v hv)) (fun h => by simp at h) C' 0 (by omega) (fun u hu => by omega)
      refine ⟨b, Evt.step (fun k => codewrightref04_irreducible.l0.eq_2 ..) (Evt.pos (by omega) ?_), hq⟩
      rw [hCp, ← hC', wnat (by omega)]
      exact hb
    · refine ⟨true, Evt.step (fun k => codewrightref04_irreducible.l0.eq_2 ..) (Evt.neg (by omega) (Evt.now _)), fun _ => fun d' h1' hd' v hv => h d' h1' (by omega) v hv⟩
theorem irreducible_ev (p : Int) (mod : List Int) (hp : 2 ≤ p ∧ p ≤ 256) (hm : Ent p mod) (hl : mod.length ≤ 8) (hpow : p ^ mod.length ≤ 256) :
    ∃ b, Evt (fun k => codewrightref04_irreducible.f k mod p) b ∧ (b = true → NoDiv p mod (mod.length / 2 + 1)) :=
  irreducible_l0 p mod hp hm hl hpow 9 1 1 (by omega) (by omega) (by omega) (by simp) (fun d h1 h2 => by omega)
/-- a field's description that passes Check -/
structure FOK (P M : Int) (mod : List Int) : Prop where
  p2 : 2 ≤ P
  m1 : 1 ≤ M
  m8 : M ≤ 8
  small : P ^ M.toNat ≤ 256
  prime : ∀ c : Nat, 2 ≤ c → (c : Int) < P → ¬ c ∣ P.toNat
  one : M = 1 → mod = []
  len : M ≠ 1 → (mod.length : Int) = M
  ent : M ≠ 1 → Ent P mod
  irr : M ≠ 1 → NoDiv P mod (mod.length / 2 + 1)
theorem FOK.p256 {P M : Int} {mod : List Int} (h : FOK P M mod) : P ≤ 256 := by
  have h1 := h.p2
  have h2 := h.m1
  have h3 := h.small
  obtain ⟨n, hn⟩ : ∃ n, M.toNat = n + 1 := ⟨M.toNat - 1, by omega⟩
  rw [hn, Int.pow_succ] at h3
  have h4 : 1 ≤ P ^ n := Int.pow_pos (by omega)
  have h5 : 1 * P ≤ P ^ n * P := Int.mul_le_mul_of_nonneg_right h4 (by omega)
  omega
theorem check_l0 (P M : Int) (mod : List Int) (hP : 2 ≤ P) (hP2 : P ≤ 256) (hM : 1 ≤ M) (hM8 : M ≤ 8) (hM1 : M ≠ 1) (hpow : P ^ M.toNat ≤ 256) (hpr : ∀ c : Nat, 2 ≤ c → (c : Int) < P → ¬ c ∣ P.toNat) (hlen : (mod.length : Int) = M) : ∀ (e i : Nat), (i : Int) + e = M →
    (∀ j, j < i → 0 ≤ mod.getD j 0 ∧ mod.getD j 0 < P) → ∃ b, Evt (fun k => codewrightref04_Check.l0 k (i : Int) P M mod) b ∧ (b = 0 → FOK P M mod) := by
  intro e
  induction e with
  | zero =>
    intro i hi h
    have hent : Ent P mod := fun c hc => by
      obtain ⟨j, hj, rfl⟩ := List.mem_iff_getElem.1 hc
      have := h j (by omega)
      rw [List.getD_eq_getElem?_getD, List.getElem?_eq_getElem hj] at this
      exact this
    obtain ⟨b, hb, hq⟩ := irreducible_ev P mod ⟨hP, hP2⟩ hent (by omega) (by rw [show mod.length = M.toNat by omega]; exact hpow)
    cases b with
    | true => exact ⟨0, Evt.step (fun k => codewrightref04_Check.l0.eq_2 ..) (Evt.neg (by omega) (Evt.bind hb (Evt.pos rfl (Evt.now _)))), fun _ => ⟨hP, hM, hM8, hpow, hpr, fun h => absurd h hM1, fun _ => hlen, fun _ => hent, fun _ => hq rfl⟩⟩
    | false => exact ⟨1, Evt.step (fun k => codewrightref04_Check.l0.eq_2 ..) (Evt.neg (by omega) (Evt.bind hb (Evt.neg (by simp) (Evt.now _)))), fun h => by omega⟩
  | succ e ih =>
    intro i hi h
    by_cases h0 : mod.getD i 0 < 0
    · exact ⟨1, Evt.step (fun k => codewrightref04_Check.l0.eq_2 ..) (Evt.pos (by omega) (Evt.pos (by omega) (Evt.pos (by omega) (Evt.pos h0 (Evt.now _))))), fun h => by omega⟩
    · by_cases h1 : mod.getD i 0 ≥ P
      · exact ⟨1, Evt.step (fun k => codewrightref04_Check.l0.eq_2 ..) (Evt.pos (by omega) (Evt.pos (by omega) (Evt.pos (by omega) (Evt.neg h0 (Evt.pos h1 (Evt.now _)))))), fun h => by omega⟩
      · obtain ⟨b, hb, hq⟩ := ih (i + 1) (by omega) (fun j hj => by
          by_cases hji : j = i
          · rw [hji]; omega
          · exact h j (by omega))
        refine ⟨b, Evt.step (fun k => codewrightref04_Check.l0.eq_2 ..) (Evt.pos (by omega) (Evt.pos (by omega) (Evt.pos (by omega) (Evt.neg h0 (Evt.neg h1 ?_))))), hq⟩
        rw [wsucc (by omega)]; exact hb
theorem check_ev (P M : Int) (mod : List Int) : ∃ e, Evt (fun k => codewrightref04_Check.f k P M mod) e ∧ (e = 0 → FOK P M mod) := by

  unfold codewrightref04_Check.f
  obtain ⟨o, ho, hio⟩ := order_ev P M mod
  have bad : Evt (fun k => codewrightref04_Check.j0 k true P M mod) 1 := Evt.step (fun k => codewrightref04_Check.j0.eq_2 ..) (Evt.pos rfl (Evt.now _))
  by_cases h0 : o = 0
  · exact ⟨1, Evt.bind ho (Evt.pos h0 bad), fun h => by omega⟩
  · rcases hio with h | ⟨hP, hM, hM8, hoe, ho2⟩
    · exact absurd h h0
    · have hpow : P ^ M.toNat ≤ 256 := by omega
      have hP2 : P ≤ 256 := by
        obtain ⟨n, hn⟩ : ∃ n, M.toNat = n + 1 := ⟨M.toNat - 1, by omega⟩
        rw [hn, Int.pow_succ] at hpow
        have h4 : 1 ≤ P ^ n := Int.pow_pos (by omega)
        have h5 : 1 * P ≤ P ^ n * P := Int.mul_le_mul_of_nonneg_right h4 (by omega)
        omega
      obtain ⟨Q, rfl⟩ := Int.eq_ofNat_of_zero_le (by omega : 0 ≤ P)
      obtain ⟨b, hb, hpr⟩ := prime_ev Q (by omega) (by omega)
      cases b with
      | false => exact ⟨1, Evt.bind ho (Evt.neg h0 (Evt.bind hb bad)), fun h => by omega⟩
      | true =>
        have hpr' : ∀ c : Nat, 2 ≤ c → (c : Int) < (Q : Int) → ¬ c ∣ (Q : Int).toNat := fun c h2 hc => by rw [Int.toNat_natCast]; exact hpr rfl c h2 (by omega)
        by_cases hM1 : M = 1
        · by_cases hl0 : (mod.length : Int) = 0
          · refine ⟨0, Evt.bind ho (Evt.neg h0 (Evt.bind hb (Evt.step (fun k => codewrightref04_Check.j0.eq_2 ..) (Evt.neg (by simp) (Evt.pos hM1 (Evt.pos hl0 (Evt.now _))))))), fun _ => ⟨hP, hM, hM8, hpow, hpr', fun _ => List.length_eq_zero_iff.1 (by omega), fun h => absurd hM1 h, fun h => absurd hM1 h, fun h => absurd hM1 h⟩⟩
          · exact ⟨1, Evt.bind ho (Evt.neg h0 (Evt.bind hb (Evt.step (fun k => codewrightref04_Check.j0.eq_2 ..) (Evt.neg (by simp) (Evt.pos hM1 (Evt.neg hl0 (Evt.now _))))))), fun h => by omega⟩
        · by_cases hlen : (mod.length : Int) = M
          · obtain ⟨e, he, hq⟩ := check_l0 Q M mod hP hP2 hM hM8 hM1 hpow hpr' hlen M.toNat 0 (by omega) (fun j hj => by omega)
            exact ⟨e, Evt.bind ho (Evt.neg h0 (Evt.bind hb (Evt.step (fun k => codewrightref04_Check.j0.eq_2 ..) (Evt.neg (by simp) (Evt.neg hM1 (Evt.pos hlen he)))))), hq⟩
          · exact ⟨1, Evt.bind ho (Evt.neg h0 (Evt.bind hb (Evt.step (fun k => codewrightref04_Check.j0.eq_2 ..) (Evt.neg (by simp) (Evt.neg hM1 (Evt.neg hlen (Evt.now _))))))), fun h => by omega⟩
theorem order_ok {P M : Int} {mod : List Int} (h : FOK P M mod) : Evt (fun k => codewrightref04_Order.f k P M mod) (P ^ M.toNat) := by
  unfold codewrightref04_Order.f
  have h1 := h.p2
  have h2 := h.m1
  have h3 := h.m8
  obtain ⟨P, rfl⟩ := Int.eq_ofNat_of_zero_le (by omega : 0 ≤ P)
  obtain ⟨M, rfl⟩ := Int.eq_ofNat_of_zero_le (by omega : 0 ≤ M)
  have hs := h.small
  rw [Int.toNat_natCast] at *
  have hmono : ∀ i, i ≤ M → (P : Int) ^ i ≤ 256 := fun i hi => by
    have : P ^ i ≤ P ^ M := Nat.pow_le_pow_right (by omega) hi
    have := Int.ofNat_le.2 this
    rw [Int.natCast_pow, Int.natCast_pow] at this
    omega
  have loop : ∀ (e i : Nat), i + e = M → Evt (fun k => codewrightref04_Order.l0 k ((P : Int) ^ i) (i : Int) P M mod) ((P : Int) ^ M) := by
    intro e
    induction e with
    | zero =>
      intro i hi
      have : i = M := by omega
      subst this
      exact Evt.step (fun k => codewrightref04_Order.l0.eq_2 ..) (Evt.neg (by omega) (Evt.now _))
    | succ e ih =>
      intro i hi
      have h4 := hmono (i + 1) (by omega)
      have h5 : 0 ≤ (P : Int) ^ i := Int.pow_nonneg (by omega)
      have hdiv : 0 ≤ (256 : Int) / P ∧ (256 : Int) / P ≤ 256 := ⟨Int.ediv_nonneg (by omega) (by omega), Int.ediv_le_self _ (by omega)⟩
      refine Evt.step (fun k => codewrightref04_Order.l0.eq_2 ..) (Evt.pos (by omega) (Evt.neg (by omega) (Evt.neg ?_ ?_)))
      · rw [tdivp (a := 256) (by omega), w64 (x := (256 : Int) / P) (by omega) (by omega)]
        rw [Int.pow_succ] at h4
        have := (Int.le_ediv_iff_mul_le (by omega : (0 : Int) < P)).2 h4
        omega
      · rw [← Int.pow_succ, w64 (x := (P : Int) ^ (i + 1)) (by have : 0 ≤ (P : Int) ^ (i + 1) := Int.pow_nonneg (by omega); omega) (by omega), wsucc (by omega)]
        exact ih (i + 1) (by omega)
  refine Evt.neg (by omega) (Evt.neg (by omega) ?_)
  rw [decide_eq_false (by omega : ¬ (M : Int) > 8)]
  exact Evt.step (fun k => codewrightref04_Order.j0.eq_2 ..) (Evt.neg (by simp) (loop M 0 (by omega)))
end Go.Proofs.Ytjignpnnmfdedaa.BoundsBallsC
/- What the printed reference functions on field elements compute: Is, In, Digits, Value, Add, Mul. -/
namespace Go.Proofs.Ytjignpnnmfdedaa.BoundsBallsC
open Go.RowKit Go.Proofs.Ytjignpnnmfdedaa.PBoundsBalls Go.Proofs.YtjignpnnmfdedaaW.PrintWords Go.Proofs.YtjignpnnmfdedaaW.PrintLast Go.Proofs.YtjignpnnmfdedaaW.PrintMore Cw
section
variable {P M : Nat} {mod : List Int}
/-- a field with whole numbers for P and M -/
def FN (P M : Nat) (mod : List Int) : Prop := FOK (P : Int) (M : Int) mod
theorem FN.q (h : FN P M mod) : 2 ≤ P ∧ P ≤ 256 ∧ 1 ≤ M ∧ M ≤ 8 ∧ (P : Int) ^ M ≤ 256 ∧ (2 : Int) ≤ (P : Int) ^ M := by
  have h1 := h.p2
  have h2 := h.m1
  have h3 := h.m8
  have h4 := h.small
  have h5 := h.p256
  rw [Int.toNat_natCast] at h4
  obtain ⟨n, rfl⟩ : ∃ n, M = n + 1 := ⟨M - 1, by omega⟩
  have h6 : (1 : Int) ≤ (P : Int) ^ n := Int.pow_pos (by omega)
  have h7 : 1 * (P : Int) ≤ (P : Int) ^ n * P := Int.mul_le_mul_of_nonneg_right h6 (by omega)
  have e : (P : Int) ^ (n + 1) = (P : Int) ^ n * P := Int.pow_succ ..
  exact ⟨by omega, by omega, by omega, by omega, h4, by omega⟩
theorem FN.order (h : FN P M mod) : Evt (fun k => codewrightref04_Order.f k P M mod) ((P : Int) ^ M) := by
  have := order_ok h
  rw [Int.toNat_natCast] at this
  exact this
theorem FN.low (h : FN P M mod) : (lowOf M mod).length = M := by
  unfold lowOf
  by_cases h1 : M = 1
  · rw [if_pos h1, h1]; rfl
  · rw [if_neg h1]
    have := h.len (by omega)
    omega
theorem in_ev (h : FN P M mod) (x : Int) : Evt (fun k => codewrightref04_In.f k P M mod x) (fin ((P : Int) ^ M) x) := by
  unfold codewrightref04_In.f codewrightref04_Is.f
  by_cases h0 : x ≥ 0
  · by_cases h1 : x < (P : Int) ^ M
    · rw [fin_self h0 h1]
      exact Evt.bind (a := true) (Evt.pos h0 (Evt.bind h.order (Evt.now' (decide_eq_true h1)))) (Evt.pos rfl (Evt.now _))
    · have e : fin ((P : Int) ^ M) x = 0 := if_neg (fun h => h1 h.2)
      rw [e]
      exact Evt.bind (a := false) (Evt.pos h0 (Evt.bind h.order (Evt.now' (decide_eq_false h1)))) (Evt.neg (by simp) (Evt.now _))
  · have e : fin ((P : Int) ^ M) x = 0 := if_neg (fun h => h0 h.1)
    rw [e]
    exact Evt.bind (a := false) (Evt.neg h0 (Evt.now _)) (Evt.neg (by simp) (Evt.now _))
theorem digits04_ev (h : FN P M mod) (x : Int) : Evt (fun k => codewrightref04_Digits.f k P M mod x) (digs P M (fin ((P : Int) ^ M) x)) := by
  unfold codewrightref04_Digits.f
  obtain ⟨h1, h2, h3, h4, h5, h6⟩ := h.q
  have hf := fin_in (q := (P : Int) ^ M) (by omega) x
  exact Evt.bind (in_ev h x) (Evt.bind (digits_ev P M _ (by omega) (by omega) (by omega) hf.1 (by omega)) (Evt.now _))
theorem value_l0 (hP : 2 ≤ P) (hP2 : P ≤ 256) (l : List Int) (hl : l.length ≤ 8) (he : Ent P l) (hq : (P : Int) ^ l.length ≤ 256) (M : Int) : ∀ i : Nat, i ≤ l.length →
    Evt (fun k => codewrightref04_Value.l0 k l (ev (l.drop i) P) ((i : Int) - 1) P M mod) (ev l P) := by
  intro i
  induction i with
  | zero => intro _; exact Evt.step (fun k => codewrightref04_Value.l0.eq_2 ..) (Evt.neg (by omega) (Evt.now _))
  | succ i ih =>
    intro hi
    have hd := List.drop_eq_getElem_cons (show i < l.length by omega)
    have hg : l.getD i 0 = l[i] := by rw [List.getD_eq_getElem?_getD, List.getElem?_eq_getElem (by omega)]; rfl
    have e : ev (l.drop i) P = l.getD i 0 + P * ev (l.drop (i + 1)) P := by rw [hd, ev_cons, hg]
    have hr : ∀ j, 0 ≤ ev (l.drop j) P ∧ ev (l.drop j) P ≤ 256 := fun j => by
      have h1 := ev_range (p := (P : Int)) (by omega) (n := (l.drop j).length) (d := l.drop j) ⟨rfl, fun c hc => he c (List.mem_of_mem_drop hc)⟩
      have h2 : (P : Int) ^ (l.drop j).length ≤ (P : Int) ^ l.length := by
        have : P ^ (l.drop j).length ≤ P ^ l.length := Nat.pow_le_pow_right (by omega) (by rw [List.length_drop]; omega)
        have := Int.ofNat_le.2 this
        rw [Int.natCast_pow, Int.natCast_pow] at this
        exact this
      omega
    have h1 := hr (i + 1)
    have h2 := hr i
    have h3 := he.getD (by omega) i
    have h4 : 0 ≤ ev (l.drop (i + 1)) P * P := Int.mul_nonneg h1.1 (by omega)
    refine Evt.step (fun k => codewrightref04_Value.l0.eq_2 ..) ?_
    rw [show (((i + 1 : Nat) : Int) - 1) = (i : Int) by omega, wpred2 (by omega), rd_nat]
    refine Evt.pos (by omega) (Evt.pos (by omega) (Evt.pos (by omega) ?_))
    have e2 : ev (l.drop i) P = ev (l.drop (i + 1)) P * P + l.getD i 0 := by rw [e, Int.mul_comm, Int.add_comm]
    rw [w64 (x := ev (l.drop (i + 1)) P * P) (by omega) (by omega), w64 (x := ev (l.drop (i + 1)) P * P + l.getD i 0) (by omega) (by omega), ← e2]
    exact ih (by omega)
theorem value_ev (hP : 2 ≤ P) (hP2 : P ≤ 256) (l : List Int) (hl : l.length ≤ 8) (he : Ent P l) (hq : (P : Int) ^ l.length ≤ 256) (M : Int) : Evt (fun k => codewrightref04_Value.f k P M mod l) (ev l P) := by
  unfold codewrightref04_Value.f
  rw [wpred2 (by omega)]
  have := value_l0 (mod := mod) hP hP2 l hl he hq M l.length (Nat.le_refl _)
  rw [List.drop_of_length_le (Nat.le_refl _)] at this
  exact this
theorem add_l0 (h : FN P M mod) (a b : List Int) (ha : Red P M a) (hb : Red P M b) : ∀ (e i : Nat) (r : List Int), i + e = M → r.length = M → (∀ j, j < i → r.getD j 0 = (a.getD j 0 + b.getD j 0) % P) → (∀ j, i ≤ j → r.getD j 0 = a.getD j 0) →
    Evt (fun k => codewrightref04_Add.l0 k r b (i : Int) P M mod) (ev (zadd P a b) P) := by
  obtain ⟨h1, h2, h3, h4, h5, h6⟩ := h.q
  have hal := ha.1
  have hbl := hb.1
  intro e
  induction e with
  | zero =>
    intro i r hi hr hlo hhi
    have hz := zadd_red (p := (P : Int)) (by omega) a b (by rw [hal, hbl])
    have : r = zadd P a b := ext_getD (by rw [hz.1, hr, hal]) (fun j hj => by rw [hlo j (by omega), zadd_getD _ _ _ _ (by rw [hal, hbl]) (by omega)])
    refine Evt.step (fun k => codewrightref04_Add.l0.eq_2 ..) (Evt.neg (by omega) (Evt.bind ?_ (Evt.now _)))
    rw [this]
    exact value_ev h1 h2 _ (by rw [hz.1]; omega) hz.2 (by rw [hz.1, hal]; omega) M
  | succ e ih =>
    intro i r hi hr hlo hhi
    have hx := ha.getD (by omega) i
    have hy := hb.getD (by omega) i
    refine Evt.step (fun k => codewrightref04_Add.l0.eq_2 ..) (Evt.pos (by omega) (Evt.pos (by omega) (Evt.pos (by omega) (Evt.neg (by omega) ?_))))
    rw [rd_nat, rd_nat, hhi i (Nat.le_refl _), w64 (x := a.getD i 0 + b.getD i 0) (by omega) (by omega), tmodp (by omega), wsucc (by omega), Int.toNat_natCast]
    refine ih (i + 1) _ (by omega) (by rw [List.length_set]; exact hr) (fun j hj => ?_) (fun j hj => by rw [lset_ne _ _ _ _ (by omega)]; exact hhi j (by omega))
    by_cases hji : j = i
    · rw [hji, lset_self _ _ _ (by omega)]
    · rw [lset_ne _ _ _ _ (by omega)]; exact hlo j (by omega)
theorem fadd_ev (h : FN P M mod) (x y : Int) : Evt (fun k => codewrightref04_Add.f k P M mod x y) (fadd P M mod x y) := by
  unfold codewrightref04_Add.f
  obtain ⟨h1, h2, h3, h4, h5, h6⟩ := h.q
  have ha := digs_red (p := (P : Int)) (by omega) M (fin ((P : Int) ^ M) x)
  have hb := digs_red (p := (P : Int)) (by omega) M (fin ((P : Int) ^ M) y)
  refine Evt.bind (digits04_ev h x) (Evt.bind (digits04_ev h y) ((add_l0 h _ _ ha hb M 0 _ (by omega) ha.1 (fun j hj => by omega) (fun j _ => rfl)).eq ?_))
  have hl : (digs (P : Int) M (fin ((P : Int) ^ M) x)).length = (digs (P : Int) M (fin ((P : Int) ^ M) y)).length := by rw [ha.1, hb.1]
  have hz := zadd_red (p := (P : Int)) (by omega) _ _ hl
  unfold fadd
  rw [redl_eq (by omega) (by rw [h.low]; exact ⟨(zadd_length _ _ _ hl).trans ha.1, hz.2⟩) (zadd_cong (P : Int) _ _ _ hl)]
/-- i coefficients of a, and j of b with a's entry i, are multiplied -/
def MulInv (p : Int) (a b c : List Int) (i j : Nat) : Prop :=
  ∃ u : List Int, ∀ t, ev c t = ev (a.take i) t * ev b t + a.getD i 0 * ev (b.take j) t * t ^ i + p * ev u t
theorem MulInv.step {p : Int} {a b c : List Int} {i j : Nat} (h : MulInv p a b c i j) (hs : i + j < c.length) :
    MulInv p a b (c.set (i + j) ((c.getD (i + j) 0 + a.getD i 0 * b.getD j 0) % p)) i (j + 1) := by
  obtain ⟨u, hu⟩ := h
  have e1 := Int.emod_add_mul_ediv (c.getD (i + j) 0 + a.getD i 0 * b.getD j 0) p
  generalize (c.getD (i + j) 0 + a.getD i 0 * b.getD j 0) / p = q at *
  refine ⟨padd u (List.replicate (i + j) 0 ++ [-q]), fun t => ?_⟩
  rw [ev_set' _ _ _ _ hs, hu t, ev_take_succ' _ b, ev_padd, ev_append, ev_replicate_zero, List.length_replicate]
  simp only [ev_cons, ev_nil, Int.mul_zero, Int.add_zero, Int.zero_add]
  generalize (c.getD (i + j) 0 + a.getD i 0 * b.getD j 0) % p = m at *
  have e2 : m = c.getD (i + j) 0 + a.getD i 0 * b.getD j 0 - p * q := by omega
  rw [e2, Int.pow_add]
  generalize t ^ i = A
  generalize t ^ j = B
  generalize ev (b.take j) t = L
  generalize ev (a.take i) t * ev b t = R
  generalize ev u t = X
  generalize c.getD (i + j) 0 = y
  generalize a.getD i 0 = z
  generalize b.getD j 0 = v
  clear hu e1 e2
  grind
theorem MulInv.next {p : Int} {a b c : List Int} {i : Nat} (h : MulInv p a b c i b.length) : MulInv p a b c (i + 1) 0 := by
  obtain ⟨u, hu⟩ := h
  refine ⟨u, fun t => ?_⟩
  rw [hu t, ev_take_succ' _ a, List.take_length, List.take_zero, ev_nil, Int.mul_zero, Int.zero_mul, Int.add_zero, Int.add_mul, Int.mul_right_comm]
theorem mul_entry {p x a b : Int} (hp : 2 ≤ p ∧ p ≤ 256) (hx : 0 ≤ x ∧ x < p) (ha : 0 ≤ a ∧ a < p) (hb : 0 ≤ b ∧ b < p) :
    Int.tmod (wrap64 (x + wrap64 (a * b))) p = (x + a * b) % p ∧ 0 ≤ (x + a * b) % p ∧ (x + a * b) % p < p := by
  have h0 : 0 ≤ a * b := Int.mul_nonneg (by omega) (by omega)
  have h1 : a * b ≤ 256 * 256 := by
    have h2 : a * b ≤ 256 * b := Int.mul_le_mul_of_nonneg_right (by omega) (by omega)
    omega
  rw [w64 (x := a * b) (by omega) (by omega), w64 (x := x + a * b) (by omega) (by omega), tmodp (by omega)]
  exact ⟨rfl, Int.emod_nonneg _ (by omega), Int.emod_lt_of_pos _ (by omega)⟩
/-- the reduction, from the highest power on -/
theorem mul_l2 (h : FN P M mod) (pr : List Int) : ∀ (i : Nat) (c : List Int), M ≤ i → i ≤ c.length → c.length ≤ 2 * M - 1 → (∀ z, z < c.length → 0 ≤ c.getD z 0 ∧ c.getD z 0 < P) → Cong P (lowOf M mod) (c.take i) pr →
    Evt (fun k => codewrightref04_Mul.l2 k c ((i : Int) - 1) P M mod) (ev (redl P (lowOf M mod) pr) P) := by
  obtain ⟨h1, h2, h3, h4, h5, h6⟩ := h.q
  intro i
  have fin : ∀ c : List Int, M ≤ c.length → (∀ z, z < c.length → 0 ≤ c.getD z 0 ∧ c.getD z 0 < P) → Cong P (lowOf M mod) (c.take M) pr →
      Evt (fun k => codewrightref04_Mul.l2 k c ((M : Int) - 1) P M mod) (ev (redl P (lowOf M mod) pr) P) := by
    intro c hcl hc hcong
    have hent : Ent P (c.take M) := fun x hx => by
      obtain ⟨z, hz, rfl⟩ := List.mem_iff_getElem.1 hx
      rw [List.length_take] at hz
      have := hc z (by omega)
      rw [List.getD_eq_getElem?_getD, List.getElem?_eq_getElem (by omega)] at this
      simpa using this
    have hlen : (c.take M).length = M := by rw [List.length_take]; omega
    rw [redl_eq (r := c.take M) (by omega) (by rw [h.low]; exact ⟨hlen, hent⟩) hcong]
    refine Evt.step (fun k => codewrightref04_Mul.l2.eq_2 ..) (Evt.neg (by omega) (Evt.pos (by omega) (Evt.pos (by omega) (Evt.bind ?_ (Evt.now _)))))
    rw [Int.toNat_natCast]
    exact value_ev h1 h2 _ (by omega) hent (by rw [hlen]; omega) M
  induction i with
  | zero => intro c hM; omega
  | succ i ih =>
    intro c hMi hil hcl hc hcong
    by_cases heq : M = i + 1
    · have := fin c (by omega) hc (by rw [heq]; rw [heq] at hcong; exact hcong)
      rw [heq] at this ⊢
      exact this
    · have hM1 : M ≠ 1 := by omega
      have hlow : lowOf M mod = mod := if_neg hM1
      have hml : mod.length = M := by have := h.low; rw [hlow] at this; exact this
      have hme : Ent P mod := h.ent (by omega)
      have hci := hc i (by omega)
      -- the inner loop
      have inner : ∀ (e j : Nat) (c' : List Int), j + e = M → c'.length = c.length → (∀ z, z < c'.length → 0 ≤ c'.getD z 0 ∧ c'.getD z 0 < P) → (∀ z, i ≤ z → c'.getD z 0 = c.getD z 0) → RedInv P mod (c.take (i + 1)) (c'.take (i + 1)) (c.getD i 0) (i - M) j →
          Evt (fun k => codewrightref04_Mul.l3 k c' (i : Int) (j : Int) P M mod) (ev (redl P (lowOf M mod) pr) P) := by
        intro e
        induction e with
        | zero =>
          intro j c' hj hcl' hc' hz hinv
          have hjM : j = M := by omega
          subst hjM
          have hlen : (c'.take (i + 1)).length = i + 1 := by rw [List.length_take]; omega
          have hg : (c'.take (i + 1)).getD i 0 = c.getD i 0 := by
            rw [List.getD_eq_getElem?_getD, List.getElem?_take, if_pos (by omega), ← List.getD_eq_getElem?_getD]; exact hz i (Nat.le_refl _)
          have hinv' : RedInv P mod (c.take (i + 1)) (c'.take (i + 1)) (c.getD i 0) (i - j) mod.length := by rw [hml]; exact hinv
          have hcg := hinv'.cong (by omega) (by rw [show i - j + mod.length = i by omega]; exact hg)
          rw [show i - j + mod.length = i by omega] at hcg
          have hcg2 : Cong P (lowOf j mod) (c'.take i) pr := by
            rw [hlow] at hcong ⊢
            refine (Cong.of_ev fun t => ?_).trans (hcg.trans hcong)
            rw [ev_set' _ _ _ _ (by omega), hg, ev_take_succ', hz i (Nat.le_refl _)]
            rw [Int.sub_mul, Int.zero_mul]
            generalize c.getD i 0 * t ^ i = X
            omega
          refine Evt.step (fun k => codewrightref04_Mul.l3.eq_2 ..) (Evt.neg (by omega) ?_)
          rw [wpred2 (by omega)]
          exact ih c' (by omega) (by omega) (by omega) hc' hcg2
        | succ e ihe =>
          intro j c' hj hcl' hc' hz hinv
          have hx := hc' (i - M + j) (by omega)
          have hl := hme.getD (by omega) j
          obtain ⟨e1, e2, e3⟩ := red_entry (p := (P : Int)) ⟨by omega, by omega⟩ hx hci hl
          refine Evt.step (fun k => codewrightref04_Mul.l3.eq_2 ..) (Evt.pos (by omega) ?_)
          rw [wsub (i := i) (j := M) (by omega) (by omega), wadd (by omega), wsucc (by omega)]
          refine Evt.pos (by omega) (Evt.pos (by omega) (Evt.pos (by omega) (Evt.pos (by omega) (Evt.pos (by omega) (Evt.pos (by omega) (Evt.neg (by omega) ?_))))))
          rw [rd_nat, rd_nat, rd_nat, hz i (Nat.le_refl _), Int.toNat_natCast, e1]
          refine ihe (j + 1) _ (by omega) (by rw [List.length_set]; exact hcl') (fun z hzl => ?_) (fun z hzi => by rw [lset_ne _ _ _ _ (by omega)]; exact hz z hzi) ?_
          · rw [List.length_set] at hzl
            by_cases hze : z = i - M + j
            · rw [hze, lset_self _ _ _ (by omega)]; exact ⟨e2, e3⟩
            · rw [lset_ne _ _ _ _ (by omega)]; exact hc' z hzl
          · have hst := hinv.step (by rw [List.length_take]; omega)
            have hg : (c'.take (i + 1)).getD (i - M + j) 0 = c'.getD (i - M + j) 0 := by
              rw [List.getD_eq_getElem?_getD, List.getElem?_take, if_pos (by omega), ← List.getD_eq_getElem?_getD]
            rw [hg] at hst
            rw [List.take_set]
            exact hst
      refine Evt.step (fun k => codewrightref04_Mul.l2.eq_2 ..) ?_
      rw [show (((i + 1 : Nat) : Int) - 1) = (i : Int) by omega]
      exact Evt.pos (by omega) (inner M 0 c (by omega) rfl hc (fun z _ => rfl) (RedInv.start ..))
theorem mul_l0 (h : FN P M mod) (a b : List Int) (ha : Red P M a) (hb : Red P M b) : ∀ (e i : Nat) (c : List Int), i + e = M → c.length = 2 * M - 1 → (∀ z, z < c.length → 0 ≤ c.getD z 0 ∧ c.getD z 0 < P) → MulInv P a b c i 0 →
    Evt (fun k => codewrightref04_Mul.l0 k a b c (i : Int) P M mod) (ev (redl P (lowOf M mod) (pmul a b)) P) := by
  obtain ⟨h1, h2, h3, h4, h5, h6⟩ := h.q
  have hal := ha.1
  have hbl := hb.1
  intro e
  induction e with
  | zero =>
    intro i c hi hcl hc hinv
    have hiM : i = M := by omega
    subst hiM
    refine Evt.step (fun k => codewrightref04_Mul.l0.eq_2 ..) (Evt.neg (by omega) ?_)
    rw [show wrap64 (wrap64 (2 * (i : Int)) - 2) = ((2 * i - 1 : Nat) : Int) - 1 by rw [w64 (x := 2 * (i : Int)) (by omega) (by omega), w64 (by omega) (by omega)]; omega]
    refine mul_l2 h (pmul a b) (2 * i - 1) c (by omega) (by omega) (by omega) hc ?_
    rw [List.take_of_length_le (by omega)]
    obtain ⟨u, hu⟩ := hinv
    refine ⟨[], u, fun t => ?_⟩
    rw [hu t, List.take_of_length_le (by omega), List.take_zero, ev_pmul, ev_nil]
    simp
  | succ e ih =>
    intro i c hi hcl hc hinv
    have hx := ha.getD (by omega) i
    have inner : ∀ (e j : Nat) (c : List Int), j + e = M → c.length = 2 * M - 1 → (∀ z, z < c.length → 0 ≤ c.getD z 0 ∧ c.getD z 0 < P) → MulInv P a b c i j →
        Evt (fun k => codewrightref04_Mul.l1 k a b c (i : Int) (j : Int) P M mod) (ev (redl P (lowOf M mod) (pmul a b)) P) := by
      intro e
      induction e with
      | zero =>
        intro j c hj hcl hc hinv
        refine Evt.step (fun k => codewrightref04_Mul.l1.eq_2 ..) (Evt.neg (by omega) ?_)
        rw [wsucc (by omega)]
        have : j = b.length := by omega
        subst this
        exact ih (i + 1) c (by omega) hcl hc hinv.next
      | succ e ihe =>
        intro j c hj hcl hc hinv
        have hy := hb.getD (by omega) j
        have hz := hc (i + j) (by omega)
        obtain ⟨e1, e2, e3⟩ := mul_entry (p := (P : Int)) ⟨by omega, by omega⟩ hz hx hy
        refine Evt.step (fun k => codewrightref04_Mul.l1.eq_2 ..) (Evt.pos (by omega) ?_)
        rw [wadd (by omega), wsucc (by omega)]
        refine Evt.pos (by omega) (Evt.pos (by omega) (Evt.pos (by omega) (Evt.pos (by omega) (Evt.pos (by omega) (Evt.pos (by omega) (Evt.neg (by omega) ?_))))))
        rw [rd_nat, rd_nat, rd_nat, Int.toNat_natCast, e1]
        refine ihe (j + 1) _ (by omega) (by rw [List.length_set]; exact hcl) (fun z hzl => ?_) (hinv.step (by omega))
        rw [List.length_set] at hzl
        by_cases hze : z = i + j
        · rw [hze, lset_self _ _ _ (by omega)]; exact ⟨e2, e3⟩
        · rw [lset_ne _ _ _ _ (by omega)]; exact hc z hzl
    exact Evt.step (fun k => codewrightref04_Mul.l0.eq_2 ..) (Evt.pos (by omega) (inner M 0 c (by omega) hcl hc hinv))
theorem fmul_ev (h : FN P M mod) (x y : Int) : Evt (fun k => codewrightref04_Mul.f k P M mod x y) (fmul P M mod x y) := by
  unfold codewrightref04_Mul.f
  obtain ⟨h1, h2, h3, h4, h5, h6⟩ := h.q
  have ha := digs_red (p := (P : Int)) (by omega) M (fin ((P : Int) ^ M) x)
  have hb := digs_red (p := (P : Int)) (by omega) M (fin ((P : Int) ^ M) y)
  refine Evt.bind (digits04_ev h x) (Evt.bind (digits04_ev h y) ?_)
  rw [show wrap64 (wrap64 (2 * (M : Int)) - 1) = ((2 * M - 1 : Nat) : Int) by rw [w64 (x := 2 * (M : Int)) (by omega) (by omega), w64 (by omega) (by omega)]; omega]
  refine Evt.pos (by omega) (Evt.pos (by omega) ?_)
  rw [Int.toNat_natCast]
  exact mul_l0 h _ _ ha hb M 0 _ (by omega) (by simp) (fun z _ => by rw [lzeros_getD]; omega) ⟨[], fun t => by rw [ev_replicate_zero]; simp⟩
end
end Go.Proofs.Ytjignpnnmfdedaa.BoundsBallsC
/- What the printed reference functions on numbers compute: Trim, Same, limb, Add, Mul, Of, small, Choose, Bits, Pow. -/
namespace Go.Proofs.Ytjignpnnmfdedaa.BoundsBallsC
open Go.RowKit Go.Proofs.Ytjignpnnmfdedaa.PBoundsBalls Go.Proofs.YtjignpnnmfdedaaW.PrintWords Go.Proofs.YtjignpnnmfdedaaW.PrintLast Go.Proofs.YtjignpnnmfdedaaW.PrintMore Cw
theorem rtrim_l0 (xs : List Int) (n : Nat) (hx : Is xs n) (hl : xs.length ≤ 35184372088831) : ∀ m : Nat, m ≤ xs.length → (∀ i, m ≤ i → i < xs.length → xs.getD i 0 = 0) →
    Evt (fun k => codewrightref01_Trim.l0 k xs m) (enc n) := by
  intro m
  induction m with
  | zero =>
    intro hm h
    refine Evt.step (fun k => codewrightref01_Trim.l0.eq_2 ..) (Evt.neg (by omega) (Evt.bind (Evt.now _) (Evt.pos (by omega) (Evt.pos (by omega) (Evt.pos (by simp) (Evt.now' ?_))))))
    exact take_eq_enc hx 0 hm h (.inl rfl)
  | succ m ih =>
    intro hm h
    refine Evt.step (fun k => codewrightref01_Trim.l0.eq_2 ..) ?_
    rw [wpred (by omega)]
    refine Evt.pos (by omega) (Evt.pos (by omega) (Evt.pos (by omega) ?_))
    by_cases hz : rd xs (m : Int) = 0
    · refine Evt.pos hz (ih (by omega) fun i h1 h2 => ?_)
      by_cases hi : i = m
      · rw [hi]; exact hz
      · exact h i (by omega) h2
    · refine Evt.neg hz (Evt.bind (Evt.now _) (Evt.pos (by omega) (Evt.pos (by omega) (Evt.pos (by simp; omega) (Evt.now' ?_)))))
      rw [List.nil_append]
      exact take_eq_enc hx (m + 1) hm h (.inr hz)
theorem rtrim_ev {xs : List Int} {n : Nat} (hx : Is xs n) (hl : xs.length ≤ 35184372088831) : Evt (fun k => codewrightref01_Trim.f k xs) (enc n) :=
  rtrim_l0 xs n hx hl xs.length (Nat.le_refl _) (fun i h1 h2 => by omega)
theorem rsame_l0 (xs : List Int) (hl : xs.length ≤ 35184372088831) : ∀ (d i : Nat), i + d = xs.length → Evt (fun k => codewrightref01_Same.l0 k xs xs i) true := by
  intro d
  induction d with
  | zero => intro i hi; exact Evt.step (fun k => codewrightref01_Same.l0.eq_2 ..) (Evt.neg (by omega) (Evt.now _))
  | succ d ih =>
    intro i hi
    refine Evt.step (fun k => codewrightref01_Same.l0.eq_2 ..) (Evt.pos (by omega) (Evt.pos (by omega) (Evt.pos (by omega) (Evt.pos rfl ?_))))
    rw [wsucc (by omega)]
    exact ih (i + 1) (by omega)
theorem rsame_ev (xs : List Int) (hl : xs.length ≤ 35184372088831) : Evt (fun k => codewrightref01_Same.f k xs xs) true := by
  unfold codewrightref01_Same.f
  exact Evt.pos rfl (rsame_l0 xs hl xs.length 0 (by omega))
theorem rof_ev (n : Nat) (h : n < 18446744073709551616) : Evt (fun k => codewrightref01_Of.f k n) (enc n) := by
  unfold codewrightref01_Of.f
  rw [tmodp (by omega), tdivp (by omega), wu64 (by omega) (by omega)]
  refine Evt.bind (rtrim_ev (n := n) ⟨?_, ?_⟩ (by simp)) (Evt.now _)
  · exact Lim.cons (by omega) (by omega) (Lim.cons (by omega) (by omega) Lim.nil)
  · simp only [ev_cons, ev_nil]; omega
end Go.Proofs.Ytjignpnnmfdedaa.BoundsBallsC
/- What the printed reference function Cmp computes. -/
namespace Go.Proofs.Ytjignpnnmfdedaa.BoundsBallsC
open Go.RowKit Go.Proofs.Ytjignpnnmfdedaa.PBoundsBalls Go.Proofs.YtjignpnnmfdedaaW.PrintWords Go.Proofs.YtjignpnnmfdedaaW.PrintLast Go.Proofs.YtjignpnnmfdedaaW.PrintMore Cw
end Go.Proofs.Ytjignpnnmfdedaa.BoundsBallsC
/- What the printed reference functions on lists of words compute: Distance, Words, Apart, holds. -/
namespace Go.Proofs.Ytjignpnnmfdedaa.BoundsBallsC
open Go.RowKit Go.Proofs.Ytjignpnnmfdedaa.PBoundsBalls Go.Proofs.YtjignpnnmfdedaaW.PrintWords Go.Proofs.YtjignpnnmfdedaaW.PrintLast Go.Proofs.YtjignpnnmfdedaaW.PrintMore Cw
theorem rdL1_nat (W : List (List Int)) (i : Nat) : rd_L1 W (i : Int) = W.getD i [] := rfl
theorem dist_drop (a b : List Int) (i : Nat) (ha : i < a.length) (hb : i < b.length) : dist (a.drop i) (b.drop i) = (if a.getD i 0 = b.getD i 0 then 0 else 1) + dist (a.drop (i + 1)) (b.drop (i + 1)) := by
  rw [List.drop_eq_getElem_cons ha, List.drop_eq_getElem_cons hb, dist_cons, List.getD_eq_getElem?_getD, List.getD_eq_getElem?_getD, List.getElem?_eq_getElem ha, List.getElem?_eq_getElem hb]
  rfl
theorem distance_l0 (a b : List Int) (hab : a.length ≤ b.length) (hl : a.length ≤ 1000000000) : ∀ (d i c : Nat), i + d = a.length → c ≤ i → Evt (fun k => codewrightref24_Distance.l0 k a b (c : Int) (i : Int)) ((c + dist (a.drop i) (b.drop i) : Nat) : Int) := by
  intro d
  induction d with
  | zero =>
    intro i c hi hc
    rw [List.drop_of_length_le (by omega), dist_nil]
    exact Evt.step (fun k => codewrightref24_Distance.l0.eq_2 ..) (Evt.neg (by omega) (Evt.now _))
  | succ d ih =>
    intro i c hi hc
    refine Evt.step (fun k => codewrightref24_Distance.l0.eq_2 ..) (Evt.pos (by omega) (Evt.pos (by omega) (Evt.pos (by omega) ?_)))
    rw [dist_drop a b i (by omega) (by omega), wsucc (by omega), wsucc (by omega), rd_nat, rd_nat]
    by_cases h : a.getD i 0 = b.getD i 0
    · refine Evt.pos h ?_
      rw [if_pos h, Nat.zero_add]
      exact ih (i + 1) c (by omega) (by omega)
    · refine Evt.neg h ?_
      rw [if_neg h, ← Nat.add_assoc]
      exact ih (i + 1) (c + 1) (by omega) (by omega)
theorem distance_ev (a b : List Int) (hab : a.length ≤ b.length) (hl : a.length ≤ 1000000000) : Evt (fun k => codewrightref24_Distance.f k a b) ((dist a b : Nat) : Int) := by
  have := distance_l0 a b hab hl a.length 0 0 (by omega) (by omega)
  rw [Nat.zero_add] at this
  exact this
end Go.Proofs.Ytjignpnnmfdedaa.BoundsBallsC
/- What the printed functions of package nat compute: short, Trim, Of, plus, Add, times, Mul. -/
namespace Go.Proofs.Ytjignpnnmfdedaa.BoundsBallsC
open Go.RowKit Go.Proofs.Ytjignpnnmfdedaa.PBoundsBalls Go.Proofs.YtjignpnnmfdedaaW.PrintWords Go.Proofs.YtjignpnnmfdedaaW.PrintLast Go.Proofs.YtjignpnnmfdedaaW.PrintMore Cw
theorem short_l0 (xs : List Int) (n : Nat) (hx : Is xs n) (hl : xs.length ≤ 140737488355328) : ∀ m : Nat, m ≤ xs.length → (∀ i, m ≤ i → i < xs.length → xs.getD i 0 = 0) →
    Evt (fun k => nat_short.l0 k xs m) (enc n) := by
  intro m
  induction m with
  | zero =>
    intro hm h
    refine Evt.step (fun k => nat_short.l0.eq_2 ..) (Evt.neg (by omega) (Evt.pos (by omega) (Evt.pos (by omega) (Evt.now' ?_))))
    exact take_eq_enc hx 0 hm h (.inl rfl)
  | succ m ih =>
    intro hm h
    refine Evt.step (fun k => nat_short.l0.eq_2 ..) ?_
    rw [wpred (by omega)]
    refine Evt.pos (by omega) (Evt.pos (by omega) (Evt.pos (by omega) ?_))
    by_cases hz : rd xs (m : Int) = 0
    · refine Evt.pos hz (ih (by omega) fun i h1 h2 => ?_)
      by_cases hi : i = m
      · rw [hi]; exact hz
      · exact h i (by omega) h2
    · refine Evt.neg hz (Evt.pos (by omega) (Evt.pos (by omega) (Evt.now' ?_)))
      exact take_eq_enc hx (m + 1) hm h (.inr hz)
theorem short_ev {xs : List Int} {n : Nat} (hx : Is xs n) (hl : xs.length ≤ 140737488355328) : Evt (fun k => nat_short.f k xs) (enc n) :=
  short_l0 xs n hx hl xs.length (Nat.le_refl _) (fun i h1 h2 => by omega)
theorem trim_ev {xs : List Int} {n : Nat} (hx : Is xs n) (hl : xs.length ≤ 35184372088831) : Evt (fun k => nat_Trim.f k xs) (enc n) := by
  unfold nat_Trim.f
  have := hx.enc_length
  exact Evt.bind (short_ev hx (by omega)) (Evt.pos (by simp; omega) (Evt.now' (by simp)))
theorem of_ev (n : Nat) (h : n < 18446744073709551616) : Evt (fun k => nat_Of.f k n) (enc n) := by
  unfold nat_Of.f
  refine Evt.bind (trim_ev (n := n) ⟨?_, ?_⟩ (by simp)) (Evt.now _)
  · exact Lim.cons (by omega) (by omega) (Lim.cons (by omega) (by omega) Lim.nil)
  · simp only [ev_cons, ev_nil]; omega
/-- the loop of plus: i limbs are added -/
theorem plus_l0 (a b : List Int) (m n : Nat) (ha : Is a m) (hb : Is b n) (hab : b.length ≤ a.length) (hl : a.length ≤ 35184372088000) : ∀ (d i : Nat) (out : List Int) (c : Int),
    i + d = a.length → Lim out → out.length = a.length + 1 → (∀ j, i ≤ j → out.getD j 0 = 0) → 0 ≤ c → c ≤ 1 → PlusInv a b out c i →
    Evt (fun k => nat_plus.l0 k a b out c (a.length : Int) (i : Int)) (enc (m + n)) := by
  intro d
  induction d with
  | zero =>
    intro i out c hi hlim hlen hz hc0 hc1 he
    refine Evt.step (fun k => nat_plus.l0.eq_2 ..) (Evt.neg (by omega) (Evt.pos (by omega) (Evt.pos (by omega) ?_)))
    refine Evt.bind (short_ev (n := m + n) ⟨hlim.set _ (by omega) (by omega), ?_⟩ (by rw [List.length_set]; omega)) (Evt.now _)
    have h1 : i = a.length := by omega
    subst h1
    rw [Int.toNat_natCast, mod_limb hc0 (by omega), he.last (Nat.le_refl _) hab (by omega) (hz _ (Nat.le_refl _)), ha.2, hb.2]; omega
  | succ d ih =>
    intro i out c hi hlim hlen hz hc0 hc1 he
    refine Evt.step (fun k => nat_plus.l0.eq_2 ..) (Evt.pos (by omega) (Evt.pos (by omega) (Evt.pos (by omega) ?_)))
    have hai := ha.1.getD i
    have hbi := hb.1.getD i
    have hn := he.step (by omega) (hz i (Nat.le_refl _))
    rw [wsucc (by omega)]
    simp only [rd_nat, Int.toNat_natCast]
    by_cases hlt : i < b.length
    · refine Evt.pos (by omega) (Evt.pos (by omega) ?_)
      simp (disch := omega) only [wu64]
      exact ih (i + 1) _ _ (by omega) (hlim.set _ (by omega) (by omega)) (by rw [List.length_set]; omega) (fun j hj => by rw [lset_ne _ _ _ _ (by omega)]; exact hz j (by omega)) (by omega) (by omega) hn
    · have hb0 : b.getD i 0 = 0 := getD_none' b i (by omega)
      refine Evt.neg (by omega) (Evt.pos (by omega) ?_)
      rw [hb0, Int.add_zero] at hn
      simp (disch := omega) only [wu64]
      exact ih (i + 1) _ _ (by omega) (hlim.set _ (by omega) (by omega)) (by rw [List.length_set]; omega) (fun j hj => by rw [lset_ne _ _ _ _ (by omega)]; exact hz j (by omega)) (by omega) (by omega) hn
theorem plus_j0 {a b : List Int} {m n : Nat} (ha : Is a m) (hb : Is b n) (hab : b.length ≤ a.length) (hl : a.length ≤ 35184372088000) : Evt (fun k => nat_plus.j0 k a b) (enc (m + n)) := by
  refine Evt.step (fun k => nat_plus.j0.eq_2 ..) ?_
  rw [wsucc (by omega)]
  refine Evt.pos (by omega) (Evt.pos (by omega) ?_)
  rw [Int.toNat_natCast]
  exact plus_l0 a b m n ha hb hab hl a.length 0 _ 0 (by omega) (Lim.zeros _) (by simp) (fun j _ => lzeros_getD _ _) (by omega) (by omega) (PlusInv.start ..)
theorem plus_ev {a b : List Int} {m n : Nat} (ha : Is a m) (hb : Is b n) (hl : a.length ≤ 35184372088000) (hl2 : b.length ≤ 35184372088000) : Evt (fun k => nat_plus.f k a b) (enc (m + n)) := by
  unfold nat_plus.f
  by_cases h : (a.length : Int) < b.length
  · refine Evt.pos h ?_
    rw [Nat.add_comm]
    exact plus_j0 hb ha (by omega) hl2
  · exact Evt.neg h (plus_j0 ha hb (by omega) hl)
end Go.Proofs.Ytjignpnnmfdedaa.BoundsBallsC
/- What the printed functions of package nat compute: times, Mul, Add, digit, Binomial, Bits, Pow. -/
namespace Go.Proofs.Ytjignpnnmfdedaa.BoundsBallsC
open Go.RowKit Go.Proofs.Ytjignpnnmfdedaa.PBoundsBalls Go.Proofs.YtjignpnnmfdedaaW.PrintWords Go.Proofs.YtjignpnnmfdedaaW.PrintLast Go.Proofs.YtjignpnnmfdedaaW.PrintMore Cw
theorem times_l (a b : List Int) (m n : Nat) (ha : Is a m) (hb : Is b n) (hla : a.length ≤ 17592186044000) (hlb : b.length ≤ 17592186044000) : ∀ (d i : Nat) (out : List Int),
    i + d = a.length → Lim out → out.length = a.length + b.length → (∀ p, i + b.length ≤ p → out.getD p 0 = 0) → TimesInv a b out 0 i 0 →
    Evt (fun k => nat_times.l0 k b out a (a.length : Int) (i : Int)) (enc (m * n)) := by
  intro d
  induction d with
  | zero =>
    intro i out hi hlim hlen hz he
    refine Evt.step (fun k => nat_times.l0.eq_2 ..) (Evt.neg (by omega) ?_)
    refine Evt.bind (short_ev (n := m * n) ⟨hlim, ?_⟩ (by omega)) (Evt.now _)
    rw [he.last (by omega), ha.2, hb.2, Int.natCast_mul]
  | succ d ih =>
    intro i out hi hlim hlen hz he
    refine Evt.step (fun k => nat_times.l0.eq_2 ..) (Evt.pos (by omega) (Evt.pos (by omega) (Evt.pos (by omega) ?_)))
    rw [rd_nat]
    have hx := ha.1.getD i
    suffices H : ∀ (e j : Nat) (out : List Int) (c : Int), j + e = b.length → Lim out → out.length = a.length + b.length → (∀ p, i + b.length ≤ p → out.getD p 0 = 0) → 0 ≤ c → c < 4294967296 → TimesInv a b out c i j →
        Evt (fun k => nat_times.l1 k b out (i : Int) (a.getD i 0) c a (a.length : Int) (i : Int) b (b.length : Int) (j : Int)) (enc (m * n)) from
      H b.length 0 out 0 (by omega) hlim hlen hz (by omega) (by omega) he
    intro e
    induction e with
    | zero =>
      intro j out c hj hlim hlen hz hc0 hc1 he
      refine Evt.step (fun k => nat_times.l1.eq_2 ..) (Evt.neg (by omega) ?_)
      have hj' : j = b.length := by omega
      subst hj'
      rw [wadd (by omega), wsucc (by omega), mod_limb hc0 hc1, Int.toNat_natCast]
      refine Evt.pos (by omega) (Evt.pos (by omega) ?_)
      exact ih (i + 1) _ (by omega) (hlim.set _ hc0 hc1) (by rw [List.length_set]; omega) (fun p hp => by rw [lset_ne _ _ _ _ (by omega)]; exact hz p (by omega)) (he.next (by omega) (hz _ (Nat.le_refl _)))
    | succ e ihe =>
      intro j out c hj hlim hlen hz hc0 hc1 he
      refine Evt.step (fun k => nat_times.l1.eq_2 ..) (Evt.pos (by omega) (Evt.pos (by omega) (Evt.pos (by omega) ?_)))
      rw [wadd (by omega), wsucc (by omega)]
      refine Evt.pos (by omega) (Evt.pos (by omega) ?_)
      rw [rd_nat, rd_nat, Int.toNat_natCast]
      have hy := hb.1.getD j
      have ho := hlim.getD (i + j)
      have hm := mul_lim hx hy
      have hn := he.step (by omega)
      rw [wu64 hx.1 (by omega), wu64 hy.1 (by omega), wu64 hm.1 (by omega), wu64 ho.1 (by omega), wu64 (x := a.getD i 0 * b.getD j 0 + out.getD (i + j) 0) (by omega) (by omega), wu64 (x := a.getD i 0 * b.getD j 0 + out.getD (i + j) 0 + c) (by omega) (by omega)]
      exact ihe (j + 1) _ _ (by omega) (hlim.set _ (by omega) (by omega)) (by rw [List.length_set]; omega) (fun p hp => by rw [lset_ne _ _ _ _ (by omega)]; exact hz p hp) (by omega) (by omega) hn
theorem times_ev {a b : List Int} {m n : Nat} (ha : Is a m) (hb : Is b n) (hla : a.length ≤ 17592186044000) (hlb : b.length ≤ 17592186044000) : Evt (fun k => nat_times.f k a b) (enc (m * n)) := by
  unfold nat_times.f
  rw [wadd (by omega), Int.toNat_natCast]
  refine Evt.pos (by omega) (Evt.pos (by omega) ?_)
  exact times_l a b m n ha hb hla hlb a.length 0 _ (by omega) (Lim.zeros _) (by simp) (fun p _ => lzeros_getD _ _) (TimesInv.start ..)
/-- Mul of two factors -/
theorem mul2_ev {a b : List Int} {m n : Nat} (ha : Is a m) (hb : Is b n) (hla : a.length ≤ 1000000000) (hlb : b.length ≤ 1000000000) : Evt (fun k => nat_Mul.f k [a, b]) (enc (m * n)) := by
  have h1 := ha.enc_length
  have h2 := hb.enc_length
  have hab : (enc (m * n)).length ≤ a.length + b.length := enc_length_le _ (by
    rw [Nat.pow_add]; exact Nat.mul_lt_mul'' ha.lt hb.lt)
  refine Evt.step (f := fun k => nat_Mul.l0 (k + 1) [1] [a, b] 2 0) (fun k => rfl) ?_
  refine Evt.congr (fun k => nat_Mul.l0.eq_2 ..) (Evt.pos (by omega) (Evt.pos (by omega) (Evt.pos (by simp) ?_)))
  rw [show rd_L3 [a, b] 0 = a from rfl, show wrap64 (0 + 1) = 1 by unfold wrap64; omega]
  refine Evt.bind (short_ev ha (by omega)) (Evt.bind (times_ev (m := 1) (n := m) ⟨Lim.cons (by omega) (by omega) Lim.nil, rfl⟩ (enc_is m) (by simp) (by omega)) ?_)
  rw [Nat.one_mul]
  refine Evt.step (fun k => nat_Mul.l0.eq_2 ..) (Evt.pos (by omega) (Evt.pos (by omega) (Evt.pos (by simp) ?_)))
  rw [show rd_L3 [a, b] 1 = b from rfl, show wrap64 (1 + 1) = 2 by unfold wrap64; omega]
  refine Evt.bind (short_ev hb (by omega)) (Evt.bind (times_ev (enc_is m) (enc_is n) (by omega) (by omega)) ?_)
  refine Evt.step (fun k => nat_Mul.l0.eq_2 ..) (Evt.neg (by omega) (Evt.bind (trim_ev (enc_is _) (by omega)) (Evt.now _)))
/-- Add of two terms -/
theorem add2_ev {a b : List Int} {m n : Nat} (ha : Is a m) (hb : Is b n) (hla : a.length ≤ 1000000000) (hlb : b.length ≤ 1000000000) : Evt (fun k => nat_Add.f k [a, b]) (enc (m + n)) := by
  have h1 := ha.enc_length
  have h2 := hb.enc_length
  have hab : (enc (m + n)).length ≤ a.length + b.length + 1 := enc_length_le _ (by
    have e1 := ha.lt
    have e2 := hb.lt
    have e3 : 4294967296 ^ a.length ≤ 4294967296 ^ (a.length + b.length) := Nat.pow_le_pow_right (by omega) (by omega)
    have e4 : 4294967296 ^ b.length ≤ 4294967296 ^ (a.length + b.length) := Nat.pow_le_pow_right (by omega) (by omega)
    rw [Nat.pow_succ]; omega)
  refine Evt.step (f := fun k => nat_Add.l0 (k + 1) [] [a, b] 2 0) (fun k => rfl) ?_
  refine Evt.congr (fun k => nat_Add.l0.eq_2 ..) (Evt.pos (by omega) (Evt.pos (by omega) (Evt.pos (by simp) ?_)))
  rw [show rd_L3 [a, b] 0 = a from rfl, show wrap64 (0 + 1) = 1 by unfold wrap64; omega]
  refine Evt.bind (short_ev ha (by omega)) (Evt.bind (plus_ev (m := 0) (n := m) Is.nil (enc_is m) (by simp) (by omega)) ?_)
  rw [Nat.zero_add]
  refine Evt.step (fun k => nat_Add.l0.eq_2 ..) (Evt.pos (by omega) (Evt.pos (by omega) (Evt.pos (by simp) ?_)))
  rw [show rd_L3 [a, b] 1 = b from rfl, show wrap64 (1 + 1) = 2 by unfold wrap64; omega]
  refine Evt.bind (short_ev hb (by omega)) (Evt.bind (plus_ev (enc_is m) (enc_is n) (by omega) (by omega)) ?_)
  refine Evt.step (fun k => nat_Add.l0.eq_2 ..) (Evt.neg (by omega) (Evt.bind (trim_ev (enc_is _) (by omega)) (Evt.now _)))
theorem digit_l0 (a : List Int) (n : Nat) (d : Nat) (ha : Is a n) (hd0 : 0 < d) (hd1 : d < 4294967296) (hl : a.length ≤ 17592186044000) : ∀ (i : Nat) (out : List Int) (r : Int),
    i ≤ a.length → Lim out → out.length = a.length → (∀ p, p < i → out.getD p 0 = 0) → 0 ≤ r → r < d → DigInv a d out r i →
    Evt (fun k => nat_digit.l0 k a d out r ((i : Int) - 1)) (enc (n / d), ((n % d : Nat) : Int)) := by
  intro i
  induction i with
  | zero =>
    intro out r hi hlim hlen hz hr0 hr1 he
    refine Evt.step (fun k => nat_digit.l0.eq_2 ..) (Evt.neg (by omega) ?_)
    have h1 := he.last
    have h2 := hlim.is
    rw [ha.2, h2.2] at h1
    generalize (ev out 4294967296).toNat = q at *
    have hn : n = q * d + r.toNat := by
      have : (q : Int) * d = ((q * d : Nat) : Int) := by rw [Int.natCast_mul]
      omega
    have hq : n / d = q := by rw [hn, Nat.mul_comm, Nat.mul_add_div hd0, Nat.div_eq_of_lt (by omega)]; rfl
    have hm : n % d = r.toNat := by rw [hn, Nat.mul_comm, Nat.mul_add_mod, Nat.mod_eq_of_lt (by omega)]
    refine Evt.bind (short_ev h2 (by omega)) (Evt.now' ?_)
    rw [hq, hm, mod_limb hr0 (by omega)]
    have : ((r.toNat : Nat) : Int) = r := by omega
    rw [this]
  | succ i ih =>
    intro out r hi hlim hlen hz hr0 hr1 he
    refine Evt.step (fun k => nat_digit.l0.eq_2 ..) ?_
    rw [show (((i + 1 : Nat) : Int) - 1) = (i : Int) by omega, wpred2 (by omega)]
    have hx := ha.1.getD i
    have hs := dig_small (d := (d : Int)) ⟨hr0, hr1⟩ hx (by omega)
    have hn := he.step (by omega) (hz i (by omega))
    rw [wu64n (i := d) (by omega)]
    refine Evt.pos (by omega) (Evt.pos (by omega) (Evt.pos (by omega) (Evt.neg (by omega) (Evt.pos (by omega) ?_))))
    rw [rd_nat, wu64 (x := r * 4294967296) (by omega) (by omega), wu64 hx.1 (by omega), or_limb (by omega) hx, Int.toNat_natCast, tdivp (by omega), tmodp (by omega), wu64 hs.1 (by omega), mod_limb hs.1 hs.2]
    exact ih _ _ (by omega) (hlim.set _ hs.1 hs.2) (by rw [List.length_set]; omega) (fun p hp => by rw [lset_ne _ _ _ _ (by omega)]; exact hz p (by omega)) (Int.emod_nonneg _ (by omega)) (Int.emod_lt_of_pos _ (by omega)) hn
theorem digit_ev {a : List Int} {n d : Nat} (ha : Is a n) (hd0 : 0 < d) (hd1 : d < 4294967296) (hl : a.length ≤ 17592186044000) : Evt (fun k => nat_digit.f k a d) (enc (n / d), ((n % d : Nat) : Int)) := by
  unfold nat_digit.f
  refine Evt.pos (by omega) (Evt.pos (by omega) ?_)
  rw [w64 (by omega) (by omega), Int.toNat_natCast]
  exact digit_l0 a n d ha hd0 hd1 hl a.length _ 0 (Nat.le_refl _) (Lim.zeros _) (by simp) (fun p _ => lzeros_getD _ _) (by omega) (by omega) (DigInv.start ..)
theorem binomial_l0 (n K : Nat) (hn : n ≤ 4096) (hK : K ≤ n) : ∀ (d i : Nat), i + d = K → Evt (fun k => nat_Binomial.l0 k n (enc (binom n i)) K i) (enc (binom n K), 0) := by
  have hlen : ∀ j, (enc (binom n j)).length ≤ 129 := fun j => enc_length_le _ (by
    exact Nat.lt_of_le_of_lt (binom_le n j) (two_pow_lt (by omega)))
  intro d
  induction d with
  | zero =>
    intro i hi
    have : i = K := by omega
    subst this
    have := hlen i
    exact Evt.step (fun k => nat_Binomial.l0.eq_2 ..) (Evt.neg (by omega) (Evt.bind (trim_ev (enc_is _) (by omega)) (Evt.now _)))
  | succ d ih =>
    intro i hi
    have h1 := hlen i
    refine Evt.step (fun k => nat_Binomial.l0.eq_2 ..) (Evt.pos (by omega) ?_)
    rw [wsub (by omega) (by omega), wsucc (by omega), mod_limb (x := ((n - i : Nat) : Int)) (by omega) (by omega), mod_limb (x := ((i + 1 : Nat) : Int)) (by omega) (by omega)]
    refine Evt.bind (times_ev (enc_is _) (n := n - i) ⟨Lim.cons (by omega) (by omega) Lim.nil, by simp⟩ (by omega) (by simp)) ?_
    have h2 : (enc (binom n i * (n - i))).length ≤ 130 := enc_length_le _ (by
      have := lt_of_enc_length h1
      rw [show (130 : Nat) = 129 + 1 by rfl, Nat.pow_succ]
      exact Nat.mul_lt_mul'' this (by omega))
    refine Evt.bind (digit_ev (enc_is _) (by omega) (by omega) (by omega)) ?_
    rw [binom_div]
    exact ih (i + 1) (by omega)
theorem binomial_ev (n k : Nat) (hn : n ≤ 4096) : Evt (fun r => nat_Binomial.f r n k) (enc (binom n k), 0) := by
  unfold nat_Binomial.f
  refine Evt.neg (by omega) ?_
  rw [decide_eq_false (by omega : ¬ (n : Int) > 4096)]
  refine Evt.step (fun k => nat_Binomial.j0.eq_2 ..) (Evt.neg (by simp) (Evt.neg (by omega) ?_))
  by_cases h : k > n
  · rw [decide_eq_true (by omega : (k : Int) > n), binom_gt _ _ h, enc_zero]
    exact Evt.step (fun k => nat_Binomial.j1.eq_2 ..) (Evt.pos rfl (Evt.now _))
  · rw [decide_eq_false (by omega : ¬ (k : Int) > n)]
    refine Evt.step (fun k => nat_Binomial.j1.eq_2 ..) (Evt.neg (by simp) ?_)
    rw [w64 (by omega) (by omega), mn_eq]
    have h1 : ([1] : List Int) = enc (binom n 0) := by rw [binom_zero, enc_pos (by omega), Nat.div_eq_of_lt (by omega), enc_zero]; rfl
    by_cases h2 : ((n : Int) - k) < k
    · rw [if_pos h2, h1, show ((n : Int) - k) = ((n - k : Nat) : Int) by omega, ← binom_symm (show k ≤ n by omega)]
      exact binomial_l0 n (n - k) hn (by omega) (n - k) 0 (by omega)
    · rw [if_neg h2, h1]
      exact binomial_l0 n k hn (by omega) k 0 (by omega)
end Go.Proofs.Ytjignpnnmfdedaa.BoundsBallsC
/- What the printed functions of package nat compute: Bits, Pow. -/
namespace Go.Proofs.Ytjignpnnmfdedaa.BoundsBallsC
open Go.RowKit Go.Proofs.Ytjignpnnmfdedaa.PBoundsBalls Go.Proofs.YtjignpnnmfdedaaW.PrintWords Go.Proofs.YtjignpnnmfdedaaW.PrintLast Go.Proofs.YtjignpnnmfdedaaW.PrintMore Cw
theorem len_small : ∀ i : Fin 256, bits_Len32.f ((i.val : Nat) : Int) = some ((blen i.val : Nat) : Int) := by decide +kernel
theorem len_ev (n : Nat) (h : n < 4294967296) : bits_Len32.f (n : Int) = some ((blen n : Nat) : Int) := by
  have small : ∀ x : Nat, x < 256 → bits_Len32.f (x : Int) = some ((blen x : Nat) : Int) := fun x hx => len_small ⟨x, hx⟩
  have hb : ∀ (T : ByteArray) (i : Int) (c : Int), 0 ≤ c → c ≤ 100 → wrap64 (c + wrap64 (bt T i)) = c + bt T i := by
    intro T i c h0 h1
    have := bt_range T i
    rw [w64 (x := bt T i) (by omega) (by omega), w64 (by omega) (by omega)]
  by_cases h1 : n < 256
  · exact small n h1
  by_cases h2 : n < 65536
  · have key := small (n / 256) (by omega)
    have e : blen n = 8 + blen (n / 256) := by
      have := blen_shift (lo := n % 256) (hi := n / 256) (s := 8) (by omega) (by omega)
      rwa [show n % 256 + n / 256 * 2 ^ 8 = n by omega] at this
    unfold bits_Len32.f at key ⊢
    rw [if_neg (by omega), if_neg (by omega), if_pos (by omega), if_pos (by omega), hb _ _ _ (by omega) (by omega)] at key
    rw [if_neg (by omega), if_pos (by omega), if_pos (by omega), if_pos (by omega), hb _ _ _ (by omega) (by omega), e]
    rw [Int.natCast_ediv] at key
    have k2 := Option.some.inj key
    rw [Int.zero_add] at k2
    rw [show ((256 : Nat) : Int) = 256 by rfl] at k2
    rw [k2]; congr 1
  by_cases h3 : n < 16777216
  · have key := small (n / 65536) (by omega)
    have e : blen n = 16 + blen (n / 65536) := by
      have := blen_shift (lo := n % 65536) (hi := n / 65536) (s := 16) (by omega) (by omega)
      rwa [show n % 65536 + n / 65536 * 2 ^ 16 = n by omega] at this
    unfold bits_Len32.f at key ⊢
    rw [if_neg (by omega), if_neg (by omega), if_pos (by omega), if_pos (by omega), hb _ _ _ (by omega) (by omega)] at key
    rw [if_pos (by omega), if_neg (by omega), if_pos (by omega), if_pos (by omega), hb _ _ _ (by omega) (by omega), e]
    rw [Int.natCast_ediv] at key
    have k2 := Option.some.inj key
    rw [Int.zero_add] at k2
    rw [show ((65536 : Nat) : Int) = 65536 by rfl] at k2
    rw [k2]; congr 1
  · have key := small (n / 65536 / 256) (by omega)
    have e : blen n = 24 + blen (n / 65536 / 256) := by
      have := blen_shift (lo := n % 16777216) (hi := n / 65536 / 256) (s := 24) (by omega) (by omega)
      rwa [show n % 16777216 + n / 65536 / 256 * 2 ^ 24 = n by omega] at this
    unfold bits_Len32.f at key ⊢
    rw [if_neg (by omega), if_neg (by omega), if_pos (by omega), if_pos (by omega), hb _ _ _ (by omega) (by omega)] at key
    rw [if_pos (by omega), if_pos (by omega), if_pos (by omega), if_pos (by omega), hb _ _ _ (by omega) (by omega), e]
    rw [Int.natCast_ediv, Int.natCast_ediv] at key
    have k2 := Option.some.inj key
    rw [Int.zero_add] at k2
    rw [show ((65536 : Nat) : Int) = 65536 by rfl, show ((256 : Nat) : Int) = 256 by rfl] at k2
    rw [k2]; congr 1
theorem bits_ev {xs : List Int} {m : Nat} (hx : Is xs m) (hl : xs.length ≤ 1000000000) : Evt (fun k => nat_Bits.f k xs) ((blen m : Nat) : Int) := by
  unfold nat_Bits.f
  have hle := hx.enc_length
  refine Evt.bind (short_ev hx (by omega)) ?_
  by_cases h0 : m = 0
  · refine Evt.pos (by rw [h0, enc_zero]; rfl) (Evt.now' ?_)
    rw [h0]; rfl
  · obtain ⟨top, low, h1, h2, h3, h4, h5⟩ := enc_top h0
    have hp : 0 < (enc m).length := List.length_pos_iff.2 (enc_ne h0)
    have hb := blen_shift h4 (hi := top) (by omega)
    rw [← h5] at hb
    obtain ⟨L, hL⟩ : ∃ L, (enc m).length = L + 1 := ⟨(enc m).length - 1, by omega⟩
    rw [hL, Nat.add_sub_cancel] at h1 hb
    have hbl : blen top ≤ 32 := by
      have := blen_le (n := top) (by omega)
      have h6 : 2 ^ (blen top - 1) < 2 ^ 32 := by omega
      have := (Nat.pow_lt_pow_iff_right (by omega : 1 < 2)).1 h6
      omega
    rw [hL, wpred (by omega), rd_nat, h1]
    refine Evt.neg (by omega) (Evt.pos (by omega) (Evt.pos (by omega) (Evt.bind0 (len_ev top h3) (Evt.now' ?_))))
    rw [w64 (x := 32 * (L : Int)) (by omega) (by omega), w64 (by omega) (by omega), hb]
    omega
theorem BL (L : Nat) : (4294967296 : Nat) ^ L = 2 ^ (32 * L) := by rw [Nat.pow_mul]
theorem pow_l0 : ∀ (n : Nat) (o s : Nat) (L : Nat), L = 4096 → n < 9223372036854775808 → 0 < n → 0 < s → 0 < o → o * s ^ n < 4294967296 ^ L → Evt (fun k => nat_Pow.l0 k n (enc o) (enc s)) (enc (o * s ^ n), 0) := by
  intro n
  induction n using Nat.strongRecOn with
  | ind n ih =>
    intro o s L hL hn64 hn hs ho hb
    have hsn : s ≤ s ^ n := Nat.le_self_pow (by omega) s
    have hole : o ≤ o * s ^ n := Nat.le_mul_of_pos_right _ (Nat.pow_pos hs)
    have hsle : s ≤ o * s ^ n := Nat.le_trans hsn (Nat.le_mul_of_pos_left _ (by omega))
    have lo : (enc o).length ≤ L := enc_length_le _ (by omega)
    have ls : (enc s).length ≤ L := enc_length_le _ (by omega)
    have ltot : (enc (o * s ^ n)).length ≤ L := enc_length_le _ hb
    refine Evt.step (fun k => nat_Pow.l0.eq_2 ..) ?_
    rw [and_one (by omega) (by omega)]
    have hdiv : (n : Int) / 2 = ((n / 2 : Nat) : Int) := by omega
    rw [hdiv]
    by_cases hodd : n % 2 = 1
    · refine Evt.pos (by omega) (Evt.bind (times_ev (enc_is o) (enc_is s) (by omega) (by omega)) ?_)
      by_cases h2 : n / 2 = 0
      · have h1 : n = 1 := by omega
        subst h1
        rw [Nat.pow_one] at *
        exact Evt.pos (by omega) (Evt.neg (by omega) (Evt.bind (trim_ev (enc_is _) (by omega)) (Evt.now _)))
      · refine Evt.neg (by omega) (Evt.bind (times_ev (enc_is s) (enc_is s) (by omega) (by omega)) ?_)
        have e : o * s * (s * s) ^ (n / 2) = o * s ^ n := by
          rw [← Nat.pow_two, ← Nat.pow_mul, Nat.mul_assoc, Nat.mul_comm s, ← Nat.pow_succ]
          congr 2; omega
        have := ih (n / 2) (by omega) (o * s) (s * s) L hL (by omega) (by omega) (Nat.mul_pos hs hs) (Nat.mul_pos ho hs) (by rw [e]; exact hb)
        rwa [e] at this
    · refine Evt.neg (by omega) ?_
      by_cases h2 : n / 2 = 0
      · omega
      · refine Evt.neg (by omega) (Evt.bind (times_ev (enc_is s) (enc_is s) (by omega) (by omega)) ?_)
        have e : o * (s * s) ^ (n / 2) = o * s ^ n := by
          rw [← Nat.pow_two, ← Nat.pow_mul]
          congr 2; omega
        have := ih (n / 2) (by omega) o (s * s) L hL (by omega) (by omega) (Nat.mul_pos hs hs) ho (by rw [e]; exact hb)
        rwa [e] at this
theorem one_enc : ([1] : List Int) = enc 1 := by rw [enc_pos (by omega), Nat.div_eq_of_lt (by omega), enc_zero]; rfl
theorem pow_ev {a : List Int} {m : Nat} (ha : Is a m) (hl : a.length ≤ 1000000000) (e : Nat) (L : Nat) (hL : L = 4096) (he : e < 9223372036854775808) (h : m ≤ 1 ∨ m ^ e < 4294967296 ^ L) :
    Evt (fun k => nat_Pow.f k a e) (enc (m ^ e), 0) := by
  unfold nat_Pow.f
  refine Evt.neg (by omega) (Evt.bind (bits_ev ha hl) ?_)
  by_cases h0 : e = 0
  · subst h0
    exact Evt.pos (by omega) (Evt.step (fun k => nat_Pow.j0.eq_2 ..) (Evt.pos rfl (Evt.now' (by rw [one_enc, Nat.pow_zero]))))
  refine Evt.neg (by omega) ?_
  by_cases h1 : m = 1
  · subst h1
    exact Evt.step (fun k => nat_Pow.j0.eq_2 ..) (Evt.pos rfl (Evt.now' (by rw [one_enc, Nat.one_pow])))
  have hb1 : ¬ blen m = 1 := fun h => h1 ((blen_one_iff m).1 h)
  have hf : (((blen m : Nat) : Int) == 1) = false := by
    rw [beq_eq_false_iff_ne]; omega
  rw [hf]
  refine Evt.step (fun k => nat_Pow.j0.eq_2 ..) (Evt.neg (by simp) ?_)
  by_cases h2 : m = 0
  · subst h2
    exact Evt.pos rfl (Evt.now' (by rw [Nat.zero_pow (by omega), enc_zero]))
  have hb : m ^ e < 4294967296 ^ L := by rcases h with h | h; omega; exact h
  have hb2 := hb
  rw [BL] at hb2
  have hm2 := blen_le h2
  have hmp := blen_pos h2
  have h3 : (blen m - 1) * e < 32 * L := by
    apply (Nat.pow_lt_pow_iff_right (by omega : 1 < 2)).1
    rw [Nat.pow_mul]
    exact Nat.lt_of_le_of_lt (Nat.pow_le_pow_left hm2 e) hb2
  have h4 : e < 131072 := by
    have : 1 * e ≤ (blen m - 1) * e := Nat.mul_le_mul_right _ (by omega)
    omega
  have h5 : 0 < blen m := hmp
  have hbl : blen m - 1 ≤ (blen m - 1) * e := Nat.le_mul_of_pos_right _ (by omega)
  refine Evt.neg (by omega) (Evt.neg (by omega) ?_)
  have e1 : wrap64 (wrap64 (((blen m : Nat) : Int) - 1) * (e : Int)) = (((blen m - 1) * e : Nat) : Int) := by
    rw [w64 (x := ((blen m : Nat) : Int) - 1) (by omega) (by omega), show ((blen m : Nat) : Int) - 1 = ((blen m - 1 : Nat) : Int) by omega, ← Int.natCast_mul, w64 (by omega) (by omega)]
  rw [e1]
  clear e1
  refine Evt.neg (by omega) (Evt.bind (short_ev ha (by omega)) ?_)
  rw [one_enc]
  have := pow_l0 e 1 m L hL he (by omega) (by omega) (by omega) (by rw [Nat.one_mul]; exact hb)
  rwa [Nat.one_mul] at this
end Go.Proofs.Ytjignpnnmfdedaa.BoundsBallsC
/- What the printed functions whole, power, choose and volume of bounds compute. -/
namespace Go.Proofs.Ytjignpnnmfdedaa.BoundsBallsC
open Go.RowKit Go.Proofs.Ytjignpnnmfdedaa.PBoundsBalls Go.Proofs.YtjignpnnmfdedaaW.PrintWords Go.Proofs.YtjignpnnmfdedaaW.PrintLast Go.Proofs.YtjignpnnmfdedaaW.PrintMore Cw
theorem whole_ev (n : Nat) (h : n < 9223372036854775808) : Evt (fun k => bounds_whole.f k n) (enc n) := by
  unfold bounds_whole.f
  rw [wu64n (by omega)]
  exact Evt.bind (of_ev n (by omega)) (Evt.now _)
theorem power_ev (m e a : Nat) (ha : a < 131072) (hm : m < 9223372036854775808) (he : e < 9223372036854775808) (h : m ^ e ≤ P2 a) : Evt (fun k => bounds_power.f k m e) (enc (m ^ e)) := by
  unfold bounds_power.f
  have : (enc m).length ≤ 2 := enc_length_le _ (by omega)
  obtain ⟨L, hL⟩ : ∃ L, L = 4096 := ⟨_, rfl⟩
  exact Evt.bind (whole_ev m hm) (Evt.bind (pow_ev (enc_is m) (by omega) e L hL he (.inr (P2_lt h (by omega)))) (Evt.now _))
theorem choose_ev (n k : Nat) (hn : n ≤ 4096) : Evt (fun r => bounds_choose.f r n k) (enc (binom n k)) := by
  unfold bounds_choose.f
  exact Evt.bind (binomial_ev n k hn) (Evt.now _)
theorem volume_l0 (q n r : Nat) (hq : 1 ≤ q) (hq2 : q ≤ 256) (hn : n ≤ 64) (hr : r ≤ 65) : ∀ (d i : Nat), i + d = r → Evt (fun k => bounds_volume.l0 k q n ((r : Int) - 1) (enc (psum (q - 1) n i)) i) (enc (psum (q - 1) n r)) := by
  intro d
  induction d with
  | zero =>
    intro i hi
    have : i = r := by omega
    subst this
    exact Evt.step (fun k => bounds_volume.l0.eq_2 ..) (Evt.neg (by omega) (Evt.now _))
  | succ d ih =>
    intro i hi
    refine Evt.step (fun k => bounds_volume.l0.eq_2 ..) (Evt.pos (by omega) ?_)
    rw [wsucc (by omega), show wrap64 ((q : Int) - 1) = ((q - 1 : Nat) : Int) by rw [w64 (by omega) (by omega)]; omega]
    refine Evt.bind (choose_ev n i (by omega)) (Evt.bind (power_ev (q - 1) i 520 (by omega) (by omega) (by omega) (pow_small (by omega) (by omega))) ?_)
    have l1 := P2_len (L := 1001) (binom_small hn i) (by omega)
    have l2 := P2_len (L := 1001) (pow_small (m := q - 1) (i := i) (by omega) (by omega)) (by omega)
    have l3 := P2_len (L := 1001) (term_small (m := q - 1) (n := n) (i := i) (by omega) hn (by omega)) (by omega)
    have l4 := psum_len (m := q - 1) (n := n) (i := i) (by omega) hn (by omega)
    refine Evt.bind (mul2_ev (enc_is _) (enc_is _) (by omega) (by omega)) (Evt.bind (add2_ev (enc_is _) (enc_is _) (by omega) (by omega)) ?_)
    exact ih (i + 1) (by omega)
/-- the number of words in a ball of radius r - 1 -/
theorem volume_ev (q n r : Nat) (hq : 1 ≤ q) (hq2 : q ≤ 256) (hn : n ≤ 64) (hr : r ≤ 65) : Evt (fun k => bounds_volume.f k q n ((r : Int) - 1)) (enc (psum (q - 1) n r)) := by
  have := volume_l0 q n r hq hq2 hn hr r 0 (by omega)
  rw [psum, enc_zero] at this
  exact this
end Go.Proofs.Ytjignpnnmfdedaa.BoundsBallsC
/- What the printed reference functions Row, has, Span and All compute, over the unit vectors. -/
namespace Go.Proofs.Ytjignpnnmfdedaa.BoundsBallsC
open Go.RowKit Go.Proofs.Ytjignpnnmfdedaa.PBoundsBalls Go.Proofs.YtjignpnnmfdedaaW.PrintWords Go.Proofs.YtjignpnnmfdedaaW.PrintLast Go.Proofs.YtjignpnnmfdedaaW.PrintMore Cw
section
variable {P M : Nat} {mod : List Int}
/-- n entries of a list, as elements -/
def rowl (q : Int) (n : Nat) (l : List Int) : List Int := (List.range n).map (fun i => fin q (l.getD i 0))
theorem rowl_getD (q : Int) (n : Nat) (l : List Int) (i : Nat) (h : i < n) : (rowl q n l).getD i 0 = fin q (l.getD i 0) := by
  unfold rowl
  rw [List.getD_eq_getElem?_getD, List.getElem?_map, List.getElem?_range h]; rfl
theorem rowl_length (q : Int) (n : Nat) (l : List Int) : (rowl q n l).length = n := by simp [rowl]
theorem fin_zero {q : Int} : fin q 0 = 0 := by unfold fin; split <;> rfl
theorem row_l0 (h : FN P M mod) (n : Nat) (hn : n ≤ 1000) (l : List Int) : ∀ (e i : Nat) (r : List Int), i + e = n → r.length = n → (∀ j, j < i → r.getD j 0 = fin ((P : Int) ^ M) (l.getD j 0)) → (∀ j, i ≤ j → r.getD j 0 = 0) →
    Evt (fun k => codewrightref24_Row.l0 k n l r (i : Int) P M mod) (rowl ((P : Int) ^ M) n l) := by
  intro e
  have stop : ∀ (i : Nat) (r : List Int), r.length = n → (∀ j, j < i → r.getD j 0 = fin ((P : Int) ^ M) (l.getD j 0)) → (∀ j, i ≤ j → r.getD j 0 = 0) → (n ≤ i ∨ l.length ≤ i) → r = rowl ((P : Int) ^ M) n l := by
    intro i r hr h1 h2 hor
    refine ext_getD (by rw [hr, rowl_length]) (fun j hj => ?_)
    rw [rowl_getD _ _ _ _ (by omega)]
    by_cases hji : j < i
    · exact h1 j hji
    · rw [h2 j (by omega), getD_none' l j (by omega), fin_zero]
  induction e with
  | zero =>
    intro i r hi hr h1 h2
    refine Evt.step (fun k => codewrightref24_Row.l0.eq_2 ..) (Evt.neg (by omega) (Evt.now' ?_))
    exact stop i r hr h1 h2 (.inl (by omega))
  | succ e ih =>
    intro i r hi hr h1 h2
    by_cases hl : i < l.length
    · refine Evt.step (fun k => codewrightref24_Row.l0.eq_2 ..) (Evt.pos (by omega) (Evt.pos (by omega) (Evt.pos (by omega) ?_)))
      rw [rd_nat, Int.toNat_natCast, wsucc (by omega)]
      refine Evt.bind (in_ev h _) (Evt.pos (by omega) ?_)
      refine ih (i + 1) _ (by omega) (by rw [List.length_set]; exact hr) (fun j hj => ?_) (fun j hj => by rw [lset_ne _ _ _ _ (by omega)]; exact h2 j (by omega))
      by_cases hji : j = i
      · rw [hji, lset_self _ _ _ (by omega)]
      · rw [lset_ne _ _ _ _ (by omega)]; exact h1 j (by omega)
    · refine Evt.step (fun k => codewrightref24_Row.l0.eq_2 ..) (Evt.pos (by omega) (Evt.neg (by omega) (Evt.now' ?_)))
      exact stop i r hr h1 h2 (.inr (by omega))
theorem row_ev (h : FN P M mod) (n : Nat) (hn : n ≤ 1000) (l : List Int) : Evt (fun k => codewrightref24_Row.f k P M mod n l) (rowl ((P : Int) ^ M) n l) := by
  unfold codewrightref24_Row.f
  refine Evt.pos (by omega) (Evt.pos (by omega) ?_)
  rw [Int.toNat_natCast]
  exact row_l0 h n hn l n 0 _ (by omega) (by simp) (fun j hj => by omega) (fun j _ => lzeros_getD _ _)
theorem rowl_isW {q n : Nat} (hq : 1 ≤ q) (l : List Int) : IsW q n (rowl (q : Int) n l) :=
  ⟨rowl_length .., fun x hx => by
    obtain ⟨i, _, rfl⟩ := List.mem_map.1 hx
    exact fin_in (by omega) _⟩
/-- no word of the list is x -/
theorem has_no (W : List (List Int)) (x : List Int) (hl : W.length ≤ 1000000) (hW : ∀ w ∈ W, w.length = x.length) (hx : x.length ≤ 1000000) (hne : ∀ w ∈ W, w ≠ x) : ∀ (e i : Nat), i + e = W.length →
    Evt (fun k => codewrightref24_has.l0 k W x (i : Int)) false := by
  intro e
  induction e with
  | zero => intro i hi; exact Evt.step (fun k => codewrightref24_has.l0.eq_2 ..) (Evt.neg (by omega) (Evt.now _))
  | succ e ih =>
    intro i hi
    have hm : W.getD i [] ∈ W := by
      rw [List.getD_eq_getElem?_getD, List.getElem?_eq_getElem (by omega)]
      exact List.getElem_mem _
    have hd : dist (W.getD i []) x ≠ 0 := fun h0 => hne _ hm (dist_eq_zero (hW _ hm) h0)
    refine Evt.step (fun k => codewrightref24_has.l0.eq_2 ..) (Evt.pos (by omega) (Evt.pos (by omega) ?_))
    rw [rdL1_nat, wsucc (by omega)]
    exact Evt.bind (distance_ev _ _ (by rw [hW _ hm]; omega) (by rw [hW _ hm]; omega)) (Evt.neg (by omega) (ih (i + 1) (by omega)))
/-- the unit vector i -/
def unitv (n i : Nat) : List Int := (List.replicate n 0).set i 1
theorem unitv_getD (n i j : Nat) (hi : i < n) : (unitv n i).getD j 0 = if j = i then 1 else 0 := by
  unfold unitv
  by_cases h : j = i
  · rw [if_pos h, h, lset_self _ _ _ (by simpa using hi)]
  · rw [if_neg h, lset_ne _ _ _ _ (fun e => h e.symm), lzeros_getD]
theorem rowl_unit {q : Int} (hq : 2 ≤ q) (n i : Nat) (hi : i < n) : rowl q n (unitv n i) = unitv n i := by
  refine ext_getD (by rw [rowl_length]; simp [unitv]) (fun j hj => ?_)
  rw [rowl_length] at hj
  rw [rowl_getD _ _ _ _ hj, unitv_getD _ _ _ hi]
  split
  · exact fin_self (by omega) (by omega)
  · exact fin_zero
theorem span_l3 (h : FN P M mod) (n i : Nat) (hn : n ≤ 1000) (hi : i < n) (U S acc : List (List Int)) (a j : Nat) (ha : (a : Int) < (P : Int) ^ M) (hj : j < S.length) (hS : S.length ≤ 1000000) (hacc : acc.length ≤ 1000000) (r0 : Int)
    (hw : IsW (P ^ M) n (S.getD j [])) (hz : ∀ z, i ≤ z → (S.getD j []).getD z 0 = 0) (R : List (List Int))
    (next : Evt (fun k => codewrightref24_Span.l2 k n U 1024 S r0 (unitv n i) (acc ++ [(S.getD j []).set i a]) (a : Int) ((j + 1 : Nat) : Int) P M mod) R) : ∀ (e x : Nat) (w : List Int), x + e = n → w.length = n → (∀ z, z < x → w.getD z 0 = ((S.getD j []).set i a).getD z 0) →
    Evt (fun k => codewrightref24_Span.l3 k n U 1024 S r0 (unitv n i) acc (a : Int) (j : Int) w (x : Int) P M mod) R := by
  obtain ⟨h1, h2, h3, h4, h5, h6⟩ := h.q
  have hwl := hw.1
  have hul : (unitv n i).length = n := by simp [unitv]
  intro e
  induction e with
  | zero =>
    intro x w hx hl hlo
    have hw' : w = (S.getD j []).set i a := ext_getD (by rw [List.length_set, hl, hwl]) (fun z hz => hlo z (by omega))
    refine Evt.step (fun k => codewrightref24_Span.l3.eq_2 ..) (Evt.neg (by omega) (Evt.pos (by omega) ?_))
    rw [wsucc (by omega), hw']
    exact next
  | succ e ih =>
    intro x w hx hl hlo
    have hwx : 0 ≤ (S.getD j []).getD x 0 ∧ (S.getD j []).getD x 0 < (P : Int) ^ M := by
      rw [List.getD_eq_getElem?_getD, List.getElem?_eq_getElem (by omega)]
      have := hw.2 _ (List.getElem_mem (show x < (S.getD j []).length by omega))
      rw [Int.natCast_pow] at this
      exact this
    refine Evt.step (fun k => codewrightref24_Span.l3.eq_2 ..) (Evt.pos (by omega) (Evt.pos (by omega) (Evt.pos (by omega) (Evt.pos (by omega) ?_))))
    rw [rdL1_nat, rd_nat, rd_nat, Int.toNat_natCast, wsucc (by omega)]
    refine Evt.pos (by omega) (Evt.pos (by omega) (Evt.bind (fmul_ev h _ _) (Evt.bind (fadd_ev h _ _) (Evt.pos (by omega) ?_))))
    have hval : fadd P M mod ((S.getD j []).getD x 0) (fmul P M mod (a : Int) ((unitv n i).getD x 0)) = ((S.getD j []).set i (a : Int)).getD x 0 := by
      rw [unitv_getD _ _ _ hi]
      by_cases hxi : x = i
      · rw [if_pos hxi, fmul_one (by omega) h.low h3 (by omega) ha, hz x (by omega), zero_fadd (by omega) h.low (by omega) ha, hxi, lset_self _ _ _ (by omega)]
      · rw [if_neg hxi, fmul_zero (by omega) h.low, fadd_zero (by omega) h.low hwx.1 hwx.2, lset_ne _ _ _ _ (fun e => hxi e.symm)]
    rw [hval]
    refine ih (x + 1) _ (by omega) (by rw [List.length_set]; exact hl) (fun z hz' => ?_)
    by_cases hzx : z = x
    · rw [hzx, lset_self _ _ _ (by omega)]
    · rw [lset_ne _ _ _ _ (by omega)]; exact hlo z (by omega)
theorem span_l2 (h : FN P M mod) (n i : Nat) (hn : n ≤ 1000) (hi : i < n) (U S acc : List (List Int)) (a : Nat) (ha : (a : Int) < (P : Int) ^ M) (hS : S.length ≤ 1024) (hacc : acc.length ≤ 500000) (r0 : Int)
    (hw : ∀ w ∈ S, IsW (P ^ M) n w ∧ ∀ z, i ≤ z → w.getD z 0 = 0) (R : List (List Int))
    (next : Evt (fun k => codewrightref24_Span.l1 k n U 1024 S r0 (unitv n i) (acc ++ S.map (fun w => w.set i a)) ((a + 1 : Nat) : Int) P M mod) R) : ∀ (e j : Nat), j + e = S.length →
    Evt (fun k => codewrightref24_Span.l2 k n U 1024 S r0 (unitv n i) (acc ++ (S.take j).map (fun w => w.set i a)) (a : Int) (j : Int) P M mod) R := by
  obtain ⟨h1, h2, h3, h4, h5, h6⟩ := h.q
  intro e
  induction e with
  | zero =>
    intro j hj
    rw [List.take_of_length_le (by omega)]
    refine Evt.step (fun k => codewrightref24_Span.l2.eq_2 ..) (Evt.neg (by omega) ?_)
    rw [wsucc (by omega)]
    exact next
  | succ e ih =>
    intro j hj
    have hm : S.getD j [] ∈ S := by
      rw [List.getD_eq_getElem?_getD, List.getElem?_eq_getElem (by omega)]
      exact List.getElem_mem _
    have ht : S.take (j + 1) = S.take j ++ [S.getD j []] := by
      rw [List.take_add_one, List.getD_eq_getElem?_getD, List.getElem?_eq_getElem (by omega)]; rfl
    have ih' := ih (j + 1) (by omega)
    rw [ht, List.map_append, ← List.append_assoc] at ih'
    obtain ⟨w1, w2⟩ := hw _ hm
    have hal : (acc ++ (S.take j).map (fun w => w.set i (a : Int))).length ≤ 1000000 := by
      rw [List.length_append, List.length_map, List.length_take]; omega
    refine Evt.step (fun k => codewrightref24_Span.l2.eq_2 ..) (Evt.pos (by omega) (Evt.pos (by omega) (Evt.pos (by omega) ?_)))
    rw [Int.toNat_natCast]
    exact span_l3 h n i hn hi U S _ a j ha (by omega) (by omega) hal r0 w1 w2 R ih' n 0 _ (by omega) (by simp) (fun z hz => by omega)
theorem span_l1 (h : FN P M mod) (n i : Nat) (hn : n ≤ 1000) (hi : i < n) (U S : List (List Int)) (hS : S.length ≤ 1024) (r0 : Nat) (hr0 : r0 ≤ 1000)
    (hw : ∀ w ∈ S, IsW (P ^ M) n w ∧ ∀ z, i ≤ z → w.getD z 0 = 0) (R : List (List Int))
    (next : Evt (fun k => codewrightref24_Span.l0 k n U 1024 ((letters (P ^ M)).flatMap (fun a => S.map (fun w => w.set i a))) ((r0 + 1 : Nat) : Int) P M mod) R) : ∀ (e a : Nat), a + e = P ^ M →
    Evt (fun k => codewrightref24_Span.l1 k n U 1024 S (r0 : Int) (unitv n i) ((letters a).flatMap (fun a => S.map (fun w => w.set i a))) (a : Int) P M mod) R := by
  obtain ⟨h1, h2, h3, h4, h5, h6⟩ := h.q
  have hq : ((P ^ M : Nat) : Int) = (P : Int) ^ M := Int.natCast_pow ..
  intro e
  induction e with
  | zero =>
    intro a ha
    refine Evt.step (fun k => codewrightref24_Span.l1.eq_2 ..) (Evt.bind h.order (Evt.neg (by omega) ?_))
    rw [wsucc (by omega), show a = P ^ M by omega]
    exact next
  | succ e ih =>
    intro a ha
    have ih' := ih (a + 1) (by omega)
    have e1 : letters (a + 1) = letters a ++ [(a : Int)] := by simp [letters, List.range_succ]
    rw [e1, List.flatMap_append, List.flatMap_cons, List.flatMap_nil, List.append_nil] at ih'
    have hlen : ((letters a).flatMap (fun a => S.map (fun w => w.set i a))).length ≤ 500000 := by
      simp only [List.length_flatMap, List.length_map]
      have : (List.map (fun _ => S.length) (letters a)).sum = sm (letters a) (fun _ => S.length) := rfl
      rw [this, sm_const, letters_length]
      have : a * S.length ≤ 256 * 1024 := Nat.mul_le_mul (by omega) hS
      omega
    refine Evt.step (fun k => codewrightref24_Span.l1.eq_2 ..) (Evt.bind h.order (Evt.pos (by omega) ?_))
    have := span_l2 h n i hn hi U S _ a (by omega) hS hlen r0 hw R ih' S.length 0 (by omega)
    rw [List.take_zero, List.map_nil, List.append_nil] at this
    exact this
theorem span_small {N : Nat} {Q : Int} (hQ : 0 < Q) (h : ¬ (N : Int) > 1024 / Q) : (N : Int) * Q ≤ 1024 := by
  have h8 : (N : Int) * Q ≤ 1024 / Q * Q := Int.mul_le_mul_of_nonneg_right (Int.not_lt.1 h) (Int.le_of_lt hQ)
  exact Int.le_trans h8 (Int.ediv_mul_le 1024 (Int.ne_of_gt hQ))
theorem span_l0 (h : FN P M mod) (n : Nat) (hn : n ≤ 1000) (U : List (List Int)) (hU : U.length = n) (hUu : ∀ i, i < n → U.getD i [] = unitv n i) : ∀ (e i : Nat), i + e = n → (spanS (P ^ M) n i).length ≤ 1024 →
    ∃ R, Evt (fun k => codewrightref24_Span.l0 k n U 1024 (spanS (P ^ M) n i) (i : Int) P M mod) R ∧ (R = [] ∨ (R = spanS (P ^ M) n n ∧ R.length ≤ 1024)) := by
  obtain ⟨h1, h2, h3, h4, h5, h6⟩ := h.q
  have hq : ((P ^ M : Nat) : Int) = (P : Int) ^ M := Int.natCast_pow ..
  intro e
  induction e with
  | zero =>
    intro i hi hl
    have : i = n := by omega
    subst this
    exact ⟨_, Evt.step (fun k => codewrightref24_Span.l0.eq_2 ..) (Evt.neg (by omega) (Evt.now _)), .inr ⟨rfl, hl⟩⟩
  | succ e ih =>
    intro i hi hl
    have hmem : ∀ w ∈ spanS (P ^ M) n i, IsW (P ^ M) n w ∧ ∀ z, i ≤ z → w.getD z 0 = 0 := fun w hw => spanS_mem (by omega) hw
    have hrow := row_ev h n hn (U.getD i [])
    rw [hUu i (by omega), rowl_unit h6 n i (by omega)] at hrow
    have hno := has_no (spanS (P ^ M) n i) (unitv n i) (by omega) (fun w hw => by rw [(hmem w hw).1.1]; simp [unitv]) (by simp [unitv]; omega) (fun w hw he => by
      have h7 := (hmem w hw).2 i (Nat.le_refl _)
      rw [he, unitv_getD _ _ _ (by omega), if_pos rfl] at h7
      omega) (spanS (P ^ M) n i).length 0 (by omega)
    have hdv : 0 ≤ (1024 : Int) / (P : Int) ^ M ∧ (1024 : Int) / (P : Int) ^ M ≤ 1024 := ⟨Int.ediv_nonneg (by omega) (by omega), Int.ediv_le_self _ (by omega)⟩
    have hwv : wrap64 (Int.tdiv 1024 ((P : Int) ^ M)) = 1024 / (P : Int) ^ M := by rw [tdivp (by omega), w64 (by omega) (by omega)]
    have go : ∀ {R : List (List Int)}, Evt (fun k => if ((spanS (P ^ M) n i).length : Int) > wrap64 (Int.tdiv 1024 ((P : Int) ^ M)) then some ([] : List (List Int)) else codewrightref24_Span.l1 k n U 1024 (spanS (P ^ M) n i) (i : Int) (unitv n i) [] 0 P M mod) R →
        Evt (fun k => codewrightref24_Span.l0 k n U 1024 (spanS (P ^ M) n i) (i : Int) P M mod) R := by
      intro R hR
      refine Evt.step (fun k => codewrightref24_Span.l0.eq_2 ..) (Evt.pos (by omega) (Evt.pos (by omega) ?_))
      rw [rdL1_nat, hUu i (by omega)]
      exact Evt.bind hrow (Evt.bind hno (Evt.neg (by simp) (Evt.bind h.order (Evt.neg (by omega) hR))))
    by_cases hbig : ((spanS (P ^ M) n i).length : Int) > 1024 / (P : Int) ^ M
    · refine ⟨[], go (Evt.pos ?_ (Evt.now _)), .inl rfl⟩
      rw [hwv]; exact hbig
    · have hle : (spanS (P ^ M) n (i + 1)).length ≤ 1024 := by
        rw [spanS_length] at hbig ⊢
        rw [Nat.pow_succ]
        have h7 := span_small (by omega) hbig
        rw [← hq, ← Int.natCast_mul] at h7
        exact Int.ofNat_le.1 (show (((P ^ M) ^ i * P ^ M : Nat) : Int) ≤ ((1024 : Nat) : Int) from h7)
      obtain ⟨R, hR, hor⟩ := ih (i + 1) (by omega) hle
      refine ⟨R, go (Evt.neg ?_ ?_), hor⟩
      · rw [hwv]; exact hbig
      · exact span_l1 h n i hn (by omega) U _ hl i (by omega) hmem R hR (P ^ M) 0 (by omega)
theorem all_l0 (h : FN P M mod) (n : Nat) (hn : n ≤ 1000) : ∀ (e i : Nat), i + e = n →
    ∃ R, Evt (fun k => codewrightref24_All.l0 k n 1024 ((List.range i).map (unitv n)) (i : Int) P M mod) R ∧ (R = [] ∨ (R = spanS (P ^ M) n n ∧ R.length ≤ 1024)) := by
  intro e
  induction e with
  | zero =>
    intro i hi
    have : i = n := by omega
    subst this
    obtain ⟨R, hR, hor⟩ := span_l0 h i hn ((List.range i).map (unitv i)) (by simp) (fun j hj => by
      rw [List.getD_eq_getElem?_getD, List.getElem?_map, List.getElem?_range hj]; rfl) i 0 (by omega) (by simp [spanS])
    refine ⟨R, Evt.step (fun k => codewrightref24_All.l0.eq_2 ..) (Evt.neg (by omega) (Evt.bind ?_ (Evt.now _))), hor⟩
    unfold codewrightref24_Span.f
    exact Evt.pos (by omega) (Evt.pos (by omega) (by rw [Int.toNat_natCast]; exact hR))
  | succ e ih =>
    intro i hi
    obtain ⟨R, hR, hor⟩ := ih (i + 1) (by omega)
    rw [List.range_succ, List.map_append] at hR
    refine ⟨R, Evt.step (fun k => codewrightref24_All.l0.eq_2 ..) (Evt.pos (by omega) (Evt.pos (by omega) (Evt.pos (by omega) ?_))), hor⟩
    rw [Int.toNat_natCast, wsucc (by omega)]
    exact Evt.bind0 rfl (Evt.pos (by omega) (Evt.pos (by simp; omega) (Evt.pos (by simp; omega) (by rw [Int.toNat_natCast]; exact hR))))
theorem all_ev (h : FN P M mod) (n : Nat) (hn : n ≤ 1000) : ∃ R, Evt (fun k => codewrightref24_All.f k P M mod n 1024) R ∧ (R = [] ∨ (R = spanS (P ^ M) n n ∧ R.length ≤ 1024)) := all_l0 h n hn n 0 (by omega)
theorem Volume_ev (q n r : Nat) (hq : 2 ≤ q) (hq2 : q ≤ 256) (hn : n ≤ 64) (hr : r ≤ n) : Evt (fun k => bounds_Volume.f k q n r) (enc (psum (q - 1) n (r + 1)), 0) := by
  unfold bounds_Volume.f
  have hv := volume_ev q n (r + 1) (by omega) hq2 hn (by omega)
  rw [show ((r + 1 : Nat) : Int) - 1 = (r : Int) by omega] at hv
  exact Evt.neg (by omega) (Evt.neg (by omega) (Evt.neg (by omega) (Evt.neg (by omega) (Evt.neg (by omega) (Evt.neg (by omega) (Evt.bind hv (Evt.now _)))))))
end
end Go.Proofs.Ytjignpnnmfdedaa.BoundsBallsC
/- The function bounds.Volume returns the number of words in a ball around any word. Conditions: none, for every field description, every byte, int and list of ints. -/
namespace Go.Proofs.Ytjignpnnmfdedaa.Pure
open Go.RowKit Go.Proofs.Ytjignpnnmfdedaa.PBoundsBalls Go.Proofs.YtjignpnnmfdedaaW.PrintWords Go.Proofs.YtjignpnnmfdedaaW.PrintLast Go.Proofs.YtjignpnnmfdedaaW.PrintMore Cw Go.Proofs.Ytjignpnnmfdedaa.BoundsBallsC
section
variable {P M : Nat} {mod : List Int}
theorem balls_l0 (h : FN P M mod) (L r : Nat) (hL : L ≤ 64) (hr : r ≤ L) (c : List Int) (hc : IsW (P ^ M) L c) (A : List (List Int)) (hA : A = spanS (P ^ M) L L) (hAl : A.length ≤ 1000000) : ∀ (e i : Nat), i + e = A.length →
    Evt (fun k => codewrightlaw34_BoundsBalls.l0 k r L A c (((A.take i).filter (fun w => decide (dist w c < r + 1))).length : Nat) i P M mod) true := by
  obtain ⟨h1, h2, h3, h4, h5, h6⟩ := h.q
  have hq : ((P ^ M : Nat) : Int) = (P : Int) ^ M := Int.natCast_pow ..
  have hmem : ∀ w ∈ A, w.length = c.length := fun w hw => by
    rw [hA] at hw
    rw [(spanS_mem (by omega) hw).1.1, hc.1]
  intro e
  induction e with
  | zero =>
    intro i hi
    have hcnt : (A.filter (fun w => decide (dist w c < r + 1))).length = psum (P ^ M - 1) L (r + 1) := by
      rw [← spanS_ball (q := P ^ M) (n := L) (by omega) hc (r + 1), ← hA, ← sm_length_filter]
      exact sm_congr fun w _ => by simp
    have hle : (A.filter (fun w => decide (dist w c < r + 1))).length ≤ A.length := List.length_filter_le ..
    rw [List.take_of_length_le (by omega)]
    have hv := Volume_ev (P ^ M) L r (by omega) (by omega) hL hr
    rw [hq, ← hcnt] at hv
    have l1 : (enc (A.filter (fun w => decide (dist w c < r + 1))).length).length ≤ 1 := enc_length_le _ (by omega)
    refine Evt.step (fun k => codewrightlaw34_BoundsBalls.l0.eq_2 ..) (Evt.neg (by omega) (Evt.bind h.order (Evt.bind hv (Evt.pos rfl ?_))))
    rw [wu64n (by omega)]
    exact Evt.bind (rof_ev _ (by omega)) (Evt.bind (rsame_ev _ (by show (enc _).length ≤ _; omega)) (Evt.now _))
  | succ e ih =>
    intro i hi
    have hm : A.getD i [] ∈ A := by
      rw [List.getD_eq_getElem?_getD, List.getElem?_eq_getElem (by omega)]
      exact List.getElem_mem _
    have ht : A.take (i + 1) = A.take i ++ [A.getD i []] := by
      rw [List.take_add_one, List.getD_eq_getElem?_getD, List.getElem?_eq_getElem (by omega)]; rfl
    have ih' := ih (i + 1) (by omega)
    rw [ht, List.filter_append, List.length_append] at ih'
    have hcl := hc.1
    have hdist := distance_ev (A.getD i []) c (by rw [hmem _ hm]; exact Nat.le_refl _) (by rw [hmem _ hm]; omega)
    have hcb : ((A.take i).filter (fun w => decide (dist w c < r + 1))).length ≤ i := Nat.le_trans (List.length_filter_le ..) (by rw [List.length_take]; omega)
    refine Evt.step (fun k => codewrightlaw34_BoundsBalls.l0.eq_2 ..) (Evt.pos (by omega) (Evt.pos (by omega) ?_))
    rw [rdL1_nat]
    refine Evt.bind hdist ?_
    generalize ((A.take i).filter (fun w => decide (dist w c < r + 1))).length = C at *
    by_cases hlt : dist (A.getD i []) c < r + 1
    · refine Evt.pos (by omega) ?_
      rw [wsucc (by omega), wsucc (by omega)]
      rw [List.filter_cons_of_pos (by simpa using hlt)] at ih'
      exact ih'
    · refine Evt.neg (by omega) ?_
      rw [wsucc (i := i) (by omega)]
      rw [List.filter_cons_of_neg (by simpa using hlt)] at ih'
      exact ih'
theorem balls_j0 (h : FN P M mod) (L r : Nat) (hL : L ≤ 10) (hL1 : 1 ≤ L) (hr : r ≤ L) (center : List Int) : Evt (fun k => codewrightlaw34_BoundsBalls.j0 k r center L false P M mod) true := by
  obtain ⟨h1, h2, h3, h4, h5, h6⟩ := h.q
  have hq : ((P ^ M : Nat) : Int) = (P : Int) ^ M := Int.natCast_pow ..
  obtain ⟨R, hR, hor⟩ := all_ev h L (by omega)
  refine Evt.step (fun k => codewrightlaw34_BoundsBalls.j0.eq_2 ..) (Evt.neg (by simp) (Evt.bind hR ?_))
  by_cases h0 : (R.length : Int) = 0
  · exact Evt.pos h0 (Evt.now _)
  · refine Evt.neg h0 (Evt.bind (row_ev h L (by omega) center) ?_)
    rcases hor with hor | hor
    · rw [hor] at h0; simp at h0
    · have hw := rowl_isW (q := P ^ M) (n := L) (by omega) center
      rw [hq] at hw
      have := balls_l0 h L r (by omega) hr _ hw R hor.1 (by omega) R.length 0 (by omega)
      exact this
end
theorem BoundsBalls (P M : Int) (mod : List Int) (n r : Int) (center : List Int) (wn : (Lit.int .u8 n).wf = true) : ∃ k, codewrightlaw34_BoundsBalls.f k P M mod n r center = some true := by
  refine Evt.rounds ?_
  unfold codewrightlaw34_BoundsBalls.f
  have hn : 0 ≤ n ∧ n ≤ 255 := by simp [Lit.wf, IntKind.min, IntKind.max, IntKind.signed, IntKind.bits] at wn; omega
  obtain ⟨n, rfl⟩ := Int.eq_ofNat_of_zero_le hn.1
  have hL : wrap64 (Int.tmod (wrap64 (n : Int)) 10 + 1) = ((n % 10 + 1 : Nat) : Int) := by
    rw [w64 (x := (n : Int)) (by omega) (by omega), tmodp (by omega), w64 (by omega) (by omega)]; omega
  rw [hL]
  have yes : Evt (fun k => codewrightlaw34_BoundsBalls.j0 k r center ((n % 10 + 1 : Nat) : Int) true P M mod) true :=
    Evt.step (fun k => codewrightlaw34_BoundsBalls.j0.eq_2 ..) (Evt.pos rfl (Evt.now _))
  obtain ⟨e, he, hz⟩ := check_ev P M mod
  refine Evt.bind he ?_
  by_cases h0 : e = 0
  · refine Evt.pos h0 ?_
    have hF := hz h0
    by_cases hr0 : r < 0
    · exact Evt.pos hr0 yes
    · refine Evt.neg hr0 ?_
      by_cases hr1 : r > ((n % 10 + 1 : Nat) : Int)
      · rw [decide_eq_true hr1]; exact yes
      · rw [decide_eq_false hr1]
        have h1 := hF.p2
        have h2 := hF.m1
        obtain ⟨P, rfl⟩ := Int.eq_ofNat_of_zero_le (by omega : 0 ≤ P)
        obtain ⟨M, rfl⟩ := Int.eq_ofNat_of_zero_le (by omega : 0 ≤ M)
        obtain ⟨r, rfl⟩ := Int.eq_ofNat_of_zero_le (by omega : 0 ≤ r)
        exact balls_j0 (P := P) (M := M) hF (n % 10 + 1) r (by omega) (by omega) (by omega) center
  · exact Evt.neg h0 yes
end Go.Proofs.Ytjignpnnmfdedaa.Pure
