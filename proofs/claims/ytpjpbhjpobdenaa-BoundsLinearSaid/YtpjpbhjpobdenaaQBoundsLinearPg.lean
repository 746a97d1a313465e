/- Wraps of integers that fit, and reads of lists, as the printed functions write them. -/
import Derived.RowKit
import Derived.Laws.BitsLemmas
import Derived.Test.YtpjpbhjpobdenaaQBoundsLinearWMore
import Derived.Test.YtpjpbhjpobdenaaQBoundsLinearLib
import Derived.Test.YtpjpbhjpobdenaaQBoundsLinearx
namespace Go.Proofs.Ytpjpbhjpobdenaa.BoundsLinearC
open Go.RowKit Go Go.Proofs.YtpjpbhjpobdenaaW.PrintWords Go.Proofs.YtpjpbhjpobdenaaW.PrintLast Go.Proofs.YtpjpbhjpobdenaaW.PrintMore Cw
theorem w64 {x : Int} (h0 : -9223372036854775808 ≤ x) (h1 : x ≤ 9223372036854775807) : wrap64 x = x := by unfold wrap64; omega
theorem wu64 {x : Int} (h0 : 0 ≤ x) (h1 : x < 18446744073709551616) : IntKind.u64.wrap x = x := by
 simp only [IntKind.wrap, IntKind.bits, IntKind.signed]; simp; omega
theorem wadd {i j : Nat} (h : i + j ≤ 9223372036854775807) : wrap64 ((i : Int) + (j : Int)) = ((i + j : Nat) : Int) := by rw [w64 (by omega) (by omega)]; omega
theorem wsucc {i : Nat} (h : i < 9223372036854775807) : wrap64 ((i : Int) + 1) = ((i + 1 : Nat) : Int) := by rw [w64 (by omega) (by omega)]; omega
theorem wpred {i : Nat} (h : i < 9223372036854775807) : wrap64 (((i + 1 : Nat) : Int) - 1) = (i : Int) := by rw [w64 (by omega) (by omega)]; omega
theorem wpred2 {i : Nat} (h : i < 9223372036854775807) : wrap64 ((i : Int) - 1) = (i : Int) - 1 := by rw [w64 (by omega) (by omega)]
theorem wsub {i j : Nat} (h : i < 9223372036854775807) (hj : j ≤ i) : wrap64 ((i : Int) - (j : Int)) = ((i - j : Nat) : Int) := by rw [w64 (by omega) (by omega)]; omega
theorem wnat {i : Nat} (h : i ≤ 9223372036854775807) : wrap64 (i : Int) = (i : Int) := w64 (by omega) (by omega)
theorem wu64n {i : Nat} (h : i < 18446744073709551616) : IntKind.u64.wrap (i : Int) = (i : Int) := wu64 (by omega) (by omega)
/- No equation on a wrap may stand in a context in which omega is called: two such atoms are compared by unfolding. -/
theorem rd_nat (xs : List Int) (i : Nat) : rd xs (i : Int) = xs.getD i 0 := rfl
theorem tdivp {a b : Int} (h : 0 ≤ a) : Int.tdiv a b = a / b := Int.tdiv_eq_ediv_of_nonneg h
theorem tmodp {a b : Int} (h : 0 ≤ a) : Int.tmod a b = a % b := Int.tmod_eq_emod_of_nonneg h
end Go.Proofs.Ytpjpbhjpobdenaa.BoundsLinearC
/- What the printed reference functions on fields compute: Order, prime, digits, divides, irreducible, Check, In, Digits, Value. -/
namespace Go.Proofs.Ytpjpbhjpobdenaa.BoundsLinearC
open Go.RowKit Go.Proofs.Ytpjpbhjpobdenaa.PBoundsLinear Go.Proofs.YtpjpbhjpobdenaaW.PrintWords Go.Proofs.YtpjpbhjpobdenaaW.PrintLast Go.Proofs.YtpjpbhjpobdenaaW.PrintMore Cw
/-- what Order answers: 0, or the power -/
def IsOrd (P M o : Int) : Prop := o = 0 ∨ (2 ≤ P ∧ 1 ≤ M ∧ M ≤ 8 ∧ o = P ^ M.toNat ∧ o ≤ 256)
theorem order_l0 (P M : Int) (mod : List Int) (hP : 2 ≤ P) (hM : 1 ≤ M) (hM8 : M ≤ 8) : ∀ (d i : Nat) (q : Int), (i : Int) + d = M → q = P ^ i → q ≤ 256 →
  ∃ o, Evt (fun k => codewrightref04_Order.l0 k q (i : Int) P M mod) o ∧ IsOrd P M o := by
 intro d
 induction d with
 | zero =>
  intro i q hi hq hq2
  refine ⟨q, Evt.step (fun k => codewrightref04_Order.l0.eq_2 ..) (Evt.neg (by omega) (Evt.now _)), .inr ⟨hP, hM, hM8, ?_, hq2⟩⟩
  rw [hq]; congr 1; omega
 | succ d ih =>
  intro i q hi hq hq2
  have hdiv : 0 ≤ (256 : Int) / P ∧ (256 : Int) / P ≤ 256 := ⟨Int.ediv_nonneg (by omega) (by omega), Int.ediv_le_self _ (by omega)⟩
  have hw : wrap64 (Int.tdiv 256 P) = 256 / P := by rw [tdivp (by omega), w64 (by omega) (by omega)]
  by_cases hgt : q > 256 / P
  ·
   refine ⟨0, Evt.step (fun k => codewrightref04_Order.l0.eq_2 ..) (Evt.pos (by omega) (Evt.neg (by omega) (Evt.pos ?_ (Evt.now _)))), .inl rfl⟩
   rw [hw]; exact hgt
  ·
   have hq0 : 0 ≤ q := by rw [hq]; exact Int.pow_nonneg (by omega)
   have hmul : q * P ≤ 256 := by
    have h1 : q * P ≤ 256 / P * P := Int.mul_le_mul_of_nonneg_right (by omega) (by omega)
    have h2 : 256 / P * P ≤ 256 := Int.ediv_mul_le 256 (by omega)
    omega
   have hmul0 : 0 ≤ q * P := Int.mul_nonneg hq0 (by omega)
   obtain ⟨o, ho, hz⟩ := ih (i + 1) (q * P) (by omega) (by rw [hq, Int.pow_succ]) hmul
   refine ⟨o, Evt.step (fun k => codewrightref04_Order.l0.eq_2 ..) (Evt.pos (by omega) (Evt.neg (by omega) (Evt.neg ?_ ?_))), hz⟩
   ·
    rw [hw]; exact hgt
   ·
    rw [w64 (x := q * P) (by omega) (by omega), wsucc (by omega)]; exact ho
theorem order_ev (P M : Int) (mod : List Int) : ∃ o, Evt (fun k => codewrightref04_Order.f k P M mod) o ∧ IsOrd P M o := by
 unfold codewrightref04_Order.f
 have bad : Evt (fun k => codewrightref04_Order.j0 k true P M mod) 0 := Evt.step (fun k => codewrightref04_Order.j0.eq_2 ..) (Evt.pos rfl (Evt.now _))
 by_cases h1 : P < 2
 ·
  exact ⟨0, Evt.pos h1 bad, .inl rfl⟩
 ·
  by_cases h2 : M < 1
  ·
   exact ⟨0, Evt.neg h1 (Evt.pos h2 bad), .inl rfl⟩
  ·
   by_cases h3 : M > 8
   ·
    refine ⟨0, Evt.neg h1 (Evt.neg h2 ?_), .inl rfl⟩
    rw [decide_eq_true h3]; exact bad
   ·
    obtain ⟨o, ho, hz⟩ := order_l0 P M mod (by omega) (by omega) (by omega) M.toNat 0 1 (by omega) (by simp) (by omega)
    refine ⟨o, Evt.neg h1 (Evt.neg h2 ?_), hz⟩
    rw [decide_eq_false h3]
    exact Evt.step (fun k => codewrightref04_Order.j0.eq_2 ..) (Evt.neg (by simp) ho)
theorem prime_l0 (P : Nat) (hP : P ≤ 1000) : ∀ (e d : Nat), d + e = P → 2 ≤ d → (∀ c, 2 ≤ c → c < d → ¬ c ∣ P) → ∃ b, Evt (fun k => codewrightref04_prime.l0 k (P : Int) (d : Int)) b ∧ (b = true → ∀ c, 2 ≤ c → c < P → ¬ c ∣ P) := by
 intro e
 induction e with
 | zero =>
  intro d hd h2 h
  have : d = P := by omega
  subst this
  exact ⟨true, Evt.step (fun k => codewrightref04_prime.l0.eq_2 ..) (Evt.neg (by omega) (Evt.now _)), fun _ => h⟩
 | succ e ih =>
  intro d hd h2 h
  have hm : Int.tmod (P : Int) (d : Int) = ((P % d : Nat) : Int) := by rw [tmodp (by omega), Int.natCast_emod]
  by_cases hdv : d ∣ P
  ·
   refine ⟨false, Evt.step (fun k => codewrightref04_prime.l0.eq_2 ..) (Evt.pos (by omega) (Evt.neg (by omega) (Evt.pos ?_ (Evt.now _)))), fun h => by simp at h⟩
   rw [hm, Nat.mod_eq_zero_of_dvd hdv]; rfl
  ·
   obtain ⟨b, hb, hz⟩ := ih (d + 1) (by omega) (by omega) (fun c h2 hc => by
    by_cases hcd : c = d
    ·
     rw [hcd]; exact hdv
    ·
     exact h c h2 (by omega))
   refine ⟨b, Evt.step (fun k => codewrightref04_prime.l0.eq_2 ..) (Evt.pos (by omega) (Evt.neg (by omega) (Evt.neg ?_ ?_))), hz⟩
   ·
    rw [hm]
    intro h0
    exact hdv (Nat.dvd_of_mod_eq_zero (by omega))
   ·
    rw [wsucc (by omega)]; exact hb
theorem prime_ev (P : Nat) (h2 : 2 ≤ P) (hP : P ≤ 1000) : ∃ b, Evt (fun k => codewrightref04_prime.f k (P : Int)) b ∧ (b = true → ∀ c, 2 ≤ c → c < P → ¬ c ∣ P) :=
 prime_l0 P hP (P - 2) 2 (by omega) (by omega) (fun c h1 h2 => by omega)
theorem digits_l0 (p : Int) (n : Nat) (hp : 2 ≤ p) (hp2 : p ≤ 256) (hn : n ≤ 1000) : ∀ (d i : Nat) (x : Int) (out : List Int), i + d = n → 0 ≤ x → x < 9223372036854775808 → out.length = n →
  Evt (fun k => codewrightref04_digits.l0 k x p n out (i : Int)) (out.take i ++ digs p d x) := by
 intro d
 induction d with
 | zero =>
  intro i x out hi hx0 hx1 hl
  refine Evt.step (fun k => codewrightref04_digits.l0.eq_2 ..) (Evt.neg (by omega) (Evt.now' ?_))
  rw [List.take_of_length_le (by omega), digs, List.append_nil]
 | succ d ih =>
  intro i x out hi hx0 hx1 hl
  refine Evt.step (fun k => codewrightref04_digits.l0.eq_2 ..) (Evt.pos (by omega) (Evt.neg (by omega) (Evt.pos (by omega) (Evt.pos (by omega) ?_))))
  have h0 : 0 ≤ x / p := Int.ediv_nonneg hx0 (by omega)
  have h1 : x / p ≤ x := Int.ediv_le_self _ hx0
  rw [tdivp hx0, tmodp hx0, w64 (x := x / p) (by omega) (by omega), wsucc (by omega), Int.toNat_natCast]
  have := ih (i + 1) (x / p) (out.set i (x % p)) (by omega) h0 (by omega) (by rw [List.length_set]; exact hl)
  have e : (out.set i (x % p)).take (i + 1) ++ digs p d (x / p) = out.take i ++ digs p (d + 1) x := by
   rw [List.take_add_one, List.take_set_of_le (Nat.le_refl i), List.getElem?_set_self (by omega), digs]
   simp
  rw [e] at this
  exact this
theorem digits_ev (p : Int) (n : Nat) (x : Int) (hp : 2 ≤ p) (hp2 : p ≤ 256) (hn : n ≤ 1000) (hx0 : 0 ≤ x) (hx1 : x < 9223372036854775808) : Evt (fun k => codewrightref04_digits.f k x p n) (digs p n x) := by
 unfold codewrightref04_digits.f
 refine Evt.pos (by omega) (Evt.pos (by omega) ?_)
 have := digits_l0 p n hp hp2 hn n 0 x (List.replicate n 0) (by omega) hx0 hx1 (by simp)
 rw [List.take_zero, List.nil_append] at this
 rw [Int.toNat_natCast]
 exact this
/-- a step of a reduction: entry z of x, less a multiple of a low coefficient -/
theorem red_entry {p x c l : Int} (hp : 2 ≤ p ∧ p ≤ 256) (hx : 0 ≤ x ∧ x < p) (hc : 0 ≤ c ∧ c < p) (hl : 0 ≤ l ∧ l < p) :
  Int.tmod (wrap64 (x + wrap64 (wrap64 (p - c) * l))) p = (x + (p - c) * l) % p ∧ 0 ≤ (x + (p - c) * l) % p ∧ (x + (p - c) * l) % p < p := by
 have h0 : 0 ≤ (p - c) * l := Int.mul_nonneg (by omega) (by omega)
 have h1 : (p - c) * l ≤ 256 * 256 := by
  have a : (p - c) * l ≤ 256 * l := Int.mul_le_mul_of_nonneg_right (by omega) (by omega)
  omega
 rw [w64 (x := p - c) (by omega) (by omega), w64 (x := (p - c) * l) (by omega) (by omega), w64 (x := x + (p - c) * l) (by omega) (by omega), tmodp (by omega)]
 exact ⟨rfl, Int.emod_nonneg _ (by omega), Int.emod_lt_of_pos _ (by omega)⟩
/-- entries from 0 to p - 1 -/
def Ent (p : Int) (r : List Int) : Prop := ∀ c ∈ r, 0 ≤ c ∧ c < p
theorem Ent.getD {p : Int} {r : List Int} (h : Ent p r) (hp : 0 < p) (i : Nat) : 0 ≤ r.getD i 0 ∧ r.getD i 0 < p := Red.getD (M := r.length) ⟨rfl, h⟩ hp i
theorem Ent.set {p : Int} {r : List Int} (h : Ent p r) (i : Nat) {v : Int} (h0 : 0 ≤ v) (h1 : v < p) : Ent p (r.set i v) := by
 intro c hc
 rcases List.mem_or_eq_of_mem_set hc with h' | h'
 ·
  exact h c h'
 ·
  rw [h']; exact ⟨h0, h1⟩
theorem ev_set' (t : Int) (xs : List Int) (i : Nat) (v : Int) (h : i < xs.length) : ev (xs.set i v) t = ev xs t + (v - xs.getD i 0) * t ^ i := ev_set t xs i v h
/-- j low coefficients times c are taken off at place i - d -/
def RedInv (p : Int) (low r0 r : List Int) (c : Int) (s j : Nat) : Prop :=
 ∃ u : List Int, ∀ t, ev r t = ev r0 t + (p - c) * t ^ s * ev (low.take j) t + p * ev u t
theorem RedInv.start (p : Int) (low r : List Int) (c : Int) (s : Nat) : RedInv p low r r c s 0 := ⟨[], fun t => by simp⟩
theorem RedInv.step {p c : Int} {low r0 r : List Int} {s j : Nat} (h : RedInv p low r0 r c s j) (hs : s + j < r.length) :
  RedInv p low r0 (r.set (s + j) ((r.getD (s + j) 0 + (p - c) * low.getD j 0) % p)) c s (j + 1) := by
 obtain ⟨u, hu⟩ := h
 have e1 := Int.emod_add_mul_ediv (r.getD (s + j) 0 + (p - c) * low.getD j 0) p
 generalize (r.getD (s + j) 0 + (p - c) * low.getD j 0) / p = q at *
 refine ⟨padd u (List.replicate (s + j) 0 ++ [-q]), fun t => ?_⟩
 rw [ev_set' _ _ _ _ hs, hu t, ev_take_succ', ev_padd, ev_append, ev_replicate_zero, List.length_replicate]
 simp only [ev_cons, ev_nil, Int.mul_zero, Int.add_zero, Int.zero_add]
 generalize (r.getD (s + j) 0 + (p - c) * low.getD j 0) % p = m at *
 have e2 : m = r.getD (s + j) 0 + (p - c) * low.getD j 0 - p * q := by omega
 rw [e2, Int.pow_add]
 generalize t ^ s = A
 generalize t ^ j = B
 generalize ev (low.take j) t = L
 generalize ev r0 t = R
 generalize ev u t = X
 generalize r.getD (s + j) 0 = y
 generalize low.getD j 0 = z
 clear hu e1 e2
 grind
/-- the top entry falls away -/
theorem RedInv.cong {p c : Int} {low r0 r : List Int} {s : Nat} (h : RedInv p low r0 r c s low.length) (hs : s + low.length < r.length) (hc : r.getD (s + low.length) 0 = c) :
  Cong p low (r.set (s + low.length) 0) r0 := by
 obtain ⟨u, hu⟩ := h
 refine ⟨List.replicate s 0 ++ [-c], padd u (List.replicate s 0 ++ low), fun t => ?_⟩
 rw [ev_set' _ _ _ _ hs, hu t, List.take_length, hc, ev_append low, ev_append (List.replicate s 0), ev_padd, ev_append (List.replicate s 0), ev_replicate_zero, List.length_replicate, Int.pow_add]
 simp only [ev_cons, ev_nil, Int.mul_zero, Int.add_zero, Int.zero_add]
 generalize t ^ s = A
 generalize t ^ low.length = B
 generalize ev low t = L
 generalize ev r0 t = R
 generalize ev u t = X
 clear hu
 grind
theorem divides_l2 (r : List Int) (hl : r.length ≤ 1000) : ∀ (e i : Nat), i + e = r.length → (∀ j, j < i → r.getD j 0 = 0) → ∃ b, Evt (fun k => codewrightref04_divides.l2 k r (i : Int)) b ∧ (b = true ↔ ∀ j, j < r.length → r.getD j 0 = 0) := by
 intro e
 induction e with
 | zero =>
  intro i hi h
  exact ⟨true, Evt.step (fun k => codewrightref04_divides.l2.eq_2 ..) (Evt.neg (by omega) (Evt.now _)), fun _ j hj => h j (by omega), fun _ => rfl⟩
 | succ e ih =>
  intro i hi h
  by_cases h0 : r.getD i 0 = 0
  ·
   obtain ⟨b, hb, hz⟩ := ih (i + 1) (by omega) (fun j hj => by
    by_cases hji : j = i
    ·
     rw [hji]; exact h0
    ·
     exact h j (by omega))
   refine ⟨b, Evt.step (fun k => codewrightref04_divides.l2.eq_2 ..) (Evt.pos (by omega) (Evt.pos (by omega) (Evt.pos h0 ?_))), hz⟩
   rw [wsucc (by omega)]; exact hb
  ·
   exact ⟨false, Evt.step (fun k => codewrightref04_divides.l2.eq_2 ..) (Evt.pos (by omega) (Evt.pos (by omega) (Evt.neg h0 (Evt.now _)))), fun h => by simp at h, fun hz => absurd (hz i (by omega)) h0⟩
theorem divides_l1 (p : Int) (low : List Int) (d i : Nat) (hp : 2 ≤ p ∧ p ≤ 256) (hlow : Red p d low) (hd : 1 ≤ d) (hdi : d ≤ i) (r0 : List Int) (hi : i < r0.length) (hl : r0.length ≤ 1000) (c : Int) (hc : 0 ≤ c ∧ c < p) (Q : Bool → Prop)
  (next : ∀ r, Ent p r → r.length = r0.length → RedInv p low r0 r c (i - d) d → (∀ z, i ≤ z → r.getD z 0 = r0.getD z 0) → ∃ b, Evt (fun k => codewrightref04_divides.l0 k low p d (r.set i 0) ((i : Int) - 1)) b ∧ Q b) : ∀ (e j : Nat) (r : List Int), j + e = d → Ent p r → r.length = r0.length →
  RedInv p low r0 r c (i - d) j → (∀ z, i ≤ z → r.getD z 0 = r0.getD z 0) → ∃ b, Evt (fun k => codewrightref04_divides.l1 k low p d r (i : Int) c (j : Int)) b ∧ Q b := by
 intro e
 induction e with
 | zero =>
  intro j r hj hr hrl hinv hz
  have hjd : j = d := by omega
  subst hjd
  obtain ⟨b, hb, hq⟩ := next r hr hrl hinv hz
  refine ⟨b, Evt.step (fun k => codewrightref04_divides.l1.eq_2 ..) (Evt.neg (by omega) (Evt.pos (by omega) (Evt.pos (by omega) ?_))), hq⟩
  rw [Int.toNat_natCast, wpred2 (by omega)]
  exact hb
 | succ e ih =>
  intro j r hj hr hrl hinv hz
  have hx := hr.getD (by omega) (i - d + j)
  have hl := hlow.getD (by omega) j
  obtain ⟨e1, e2, e3⟩ := red_entry hp hx hc hl
  have hll := hlow.1
  obtain ⟨b, hb, hq⟩ := ih (j + 1) (r.set (i - d + j) ((r.getD (i - d + j) 0 + (p - c) * low.getD j 0) % p)) (by omega) (hr.set _ e2 e3) (by rw [List.length_set]; exact hrl) (hinv.step (by omega))
   (fun z hz' => by rw [lset_ne _ _ _ _ (by omega)]; exact hz z hz')
  refine ⟨b, Evt.step (fun k => codewrightref04_divides.l1.eq_2 ..) (Evt.pos (by omega) ?_), hq⟩
  rw [wsub (i := i) (j := d) (by omega) hdi, wadd (by omega), wsucc (by omega)]
  refine Evt.pos (by omega) (Evt.pos (by omega) (Evt.pos (by omega) (Evt.pos (by omega) (Evt.neg (by omega) ?_))))
  rw [rd_nat, rd_nat, Int.toNat_natCast, e1]
  exact hb
theorem divides_l0 (p : Int) (low : List Int) (d : Nat) (hp : 2 ≤ p ∧ p ≤ 256) (hlow : Red p d low) (hd : 1 ≤ d) (m : List Int) (hl : m.length ≤ 1000) : ∀ (i : Nat) (r : List Int), d ≤ i → i ≤ r.length → r.length = m.length → Ent p r → Cong p low r m → (∀ z, i ≤ z → r.getD z 0 = 0) →
  ∃ b, Evt (fun k => codewrightref04_divides.l0 k low p d r ((i : Int) - 1)) b ∧ (b = true ↔ Cong p low m []) := by
 intro i
 have fin : ∀ (r : List Int), r.length = m.length → Ent p r → Cong p low r m → (∀ z, d ≤ z → r.getD z 0 = 0) → ∃ b, Evt (fun k => codewrightref04_divides.l0 k low p d r ((d : Int) - 1)) b ∧ (b = true ↔ Cong p low m []) := by
  intro r hrl hr hcong hz
  obtain ⟨b, hb, hq⟩ := divides_l2 r (by omega) r.length 0 (by omega) (fun j hj => by omega)
  refine ⟨b, Evt.step (fun k => codewrightref04_divides.l0.eq_2 ..) (Evt.neg (by omega) hb), hq.trans ⟨fun h => ?_, fun h j hj => ?_⟩⟩
  ·
   have hall : ∀ c ∈ r, c = 0 := fun c hc => by
    obtain ⟨j, hj, rfl⟩ := List.mem_iff_getElem.1 hc
    have := h j hj
    rw [List.getD_eq_getElem?_getD, List.getElem?_eq_getElem hj] at this
    exact this
   exact hcong.symm.trans (Cong.of_ev fun t => by rw [ev_zeros r hall, ev_nil])
  ·
   -- the rest is reduced and congruent to 0
   by_cases hjd : d ≤ j
   ·
    exact hz j hjd
   ·
    have hlen : r.length = d + (r.length - d) ∨ r.length < d := by omega
    have h1 : Cong p low r [] := hcong.trans h
    have hdr : Cong p low (digs p d (ev (r ++ List.replicate d 0 |>.take d) p)) [] := by
     have hred : Red p d ((r ++ List.replicate d 0).take d) := ⟨by rw [List.length_take, List.length_append, List.length_replicate]; omega, fun c hc => by
      rcases List.mem_append.1 (List.mem_of_mem_take hc) with h' | h'
      ·
       exact hr c h'
      ·
       rw [List.eq_of_mem_replicate h']; omega⟩
     rw [digs_ev (by omega) hred]
     refine Cong.trans (Cong.of_ev fun t => ?_) h1
     have e1 : ev ((r ++ List.replicate d 0).take d) t = ev (r ++ List.replicate d 0) t := ev_drop_zeros t _ d (fun z h1 h2 => by
      by_cases hzr : z < r.length
      ·
       rw [getD_append_left' _ _ _ hzr]; exact hz z h1
      ·
       rw [getD_append_right' _ _ _ (by omega), lzeros_getD])
     rw [e1, ev_append, ev_replicate_zero, Int.mul_zero, Int.add_zero]
    have hred : Red p d ((r ++ List.replicate d 0).take d) := ⟨by rw [List.length_take, List.length_append, List.length_replicate]; omega, fun c hc => by
     rcases List.mem_append.1 (List.mem_of_mem_take hc) with h' | h'
     ·
      exact hr c h'
     ·
      rw [List.eq_of_mem_replicate h']; omega⟩
    rw [digs_ev (by omega) hred] at hdr
    have hz0 : Red p low.length (List.replicate d 0) := ⟨by rw [List.length_replicate, hlow.1], fun c hc => by rw [List.eq_of_mem_replicate hc]; omega⟩
    have heq := Cong.eq (by omega) (hlow.1 ▸ hred) hz0 (hdr.trans (Cong.of_ev fun t => by rw [ev_replicate_zero, ev_nil]))
    have h2 : ((r ++ List.replicate d 0).take d).getD j 0 = r.getD j 0 := by
     rw [List.getD_eq_getElem?_getD, List.getElem?_take, if_pos (by omega), ← List.getD_eq_getElem?_getD, getD_append_left' _ _ _ hj]
    rw [← h2, heq, lzeros_getD]
 induction i with
 | zero => intro r hdi; omega
 | succ i ih =>
  intro r hdi hil hrl hr hcong hz
  by_cases hd2 : d = i + 1
  ·
   have := fin r hrl hr hcong (fun z hz' => hz z (by omega))
   rw [hd2] at this ⊢
   exact this
  ·
   have hci := hr.getD (by omega) i
   have hll := hlow.1
   obtain ⟨b, hb, hq⟩ := divides_l1 p low d i hp hlow hd (by omega) r (by omega) (by omega) (r.getD i 0) hci (fun b => b = true ↔ Cong p low m []) (fun r' hr' hrl' hinv hz' => by
    refine ih (r'.set i 0) (by omega) (by rw [List.length_set]; omega) (by rw [List.length_set]; omega) (hr'.set _ (by omega) (by omega)) ?_ (fun z hzi => ?_)
    ·
     have hinv' : RedInv p low r r' (r.getD i 0) (i - d) low.length := by rw [hll]; exact hinv
     have h1 := hinv'.cong (by omega) (by rw [show i - d + low.length = i by omega]; exact hz' i (Nat.le_refl _))
     rw [show i - d + low.length = i by omega] at h1
     exact h1.trans hcong
    ·
     by_cases hzi' : z = i
     ·
      rw [hzi', lset_self _ _ _ (by omega)]
     ·
      rw [lset_ne _ _ _ _ (by omega), hz' z (by omega)]; exact hz z (by omega)) d 0 r (by omega) hr rfl (RedInv.start ..) (fun z _ => rfl)
   refine ⟨b, Evt.step (fun k => codewrightref04_divides.l0.eq_2 ..) ?_, hq⟩
   rw [show (((i + 1 : Nat) : Int) - 1) = (i : Int) by omega]
   refine Evt.pos (by omega) (Evt.pos (by omega) (Evt.pos (by omega) ?_))
   rw [rd_nat]
   exact hb
theorem divides_ev (p : Int) (low mod : List Int) (d : Nat) (hp : 2 ≤ p ∧ p ≤ 256) (hlow : Red p d low) (hd : 1 ≤ d) (hm : Ent p mod) (hl : mod.length ≤ 100) (hdm : d ≤ mod.length) :
  ∃ b, Evt (fun k => codewrightref04_divides.f k low mod p) b ∧ (b = true ↔ Cong p low (mod ++ [1]) []) := by
 have hE : Ent p (mod ++ [1]) := fun c hc => by
  rcases List.mem_append.1 hc with h | h
  ·
   exact hm c h
  ·
   have : c = 1 := by simpa using h
   omega
 obtain ⟨b, hb, hq⟩ := divides_l0 p low d hp hlow hd (mod ++ [1]) (by simp; omega) (mod ++ [1]).length (mod ++ [1]) (by simp; omega) (Nat.le_refl _) rfl hE (Cong.refl ..) (fun z hz => getD_none' _ _ hz)
 refine ⟨b, ?_, hq⟩
 unfold codewrightref04_divides.f
 refine Evt.bind0 rfl (Evt.pos (by simp; omega) (Evt.bind0 rfl (Evt.pos (by simp; omega) (Evt.bind0 rfl ?_))))
 rw [List.nil_append, wpred2 (by simp; omega), hlow.1]
 exact hb
/-- no monic divisor of a degree up to half -/
def NoDiv (p : Int) (mod : List Int) (D : Nat) : Prop := ∀ d, 1 ≤ d → d < D → ∀ v : Nat, (v : Int) < p ^ d → ¬ Cong p (digs p d v) (mod ++ [1]) []
theorem irreducible_l1 (p : Int) (mod : List Int) (d : Nat) (hp : 2 ≤ p ∧ p ≤ 256) (hm : Ent p mod) (hl : mod.length ≤ 8) (hd : 1 ≤ d) (hdm : d ≤ mod.length) (C : Nat) (hC : (C : Int) = p ^ d) (hC2 : C ≤ 256) (Q : Bool → Prop)
  (next : (∀ v : Nat, v < C → ¬ Cong p (digs p d v) (mod ++ [1]) []) → ∃ b, Evt (fun k => codewrightref04_irreducible.l0 k mod p C ((d + 1 : Nat) : Int)) b ∧ Q b) (bad : Q false) : ∀ (e v : Nat), v + e = C →
  (∀ u : Nat, u < v → ¬ Cong p (digs p d u) (mod ++ [1]) []) → ∃ b, Evt (fun k => codewrightref04_irreducible.l1 k mod p C d (v : Int)) b ∧ Q b := by
 intro e
 induction e with
 | zero =>
  intro v hv h
  obtain ⟨b, hb, hq⟩ := next (fun u hu => h u (by omega))
  refine ⟨b, Evt.step (fun k => codewrightref04_irreducible.l1.eq_2 ..) (Evt.neg (by omega) ?_), hq⟩
  rw [wsucc (by omega)]; exact hb
 | succ e ih =>
  intro v hv h
  obtain ⟨b0, hb0, hq0⟩ := divides_ev p (digs p d v) mod d hp (digs_red (by omega) d v) hd hm (by omega) hdm
  have hdig := digits_ev p d v hp.1 hp.2 (by omega) (by omega) (by omega)
  cases b0 with
  | true => exact ⟨false, Evt.step (fun k => codewrightref04_irreducible.l1.eq_2 ..) (Evt.pos (by omega) (Evt.bind hdig (Evt.bind hb0 (Evt.pos rfl (Evt.now _))))), bad⟩
  | false =>
   obtain ⟨b, hb, hq⟩ := ih (v + 1) (by omega) (fun u hu => by
    by_cases huv : u = v
    ·
     rw [huv]; exact fun h => by simp at hq0; exact hq0 h
    ·
     exact h u (by omega))
   refine ⟨b, Evt.step (fun k => codewrightref04_irreducible.l1.eq_2 ..) (Evt.pos (by omega) (Evt.bind hdig (Evt.bind hb0 (Evt.neg (by simp) ?_)))), hq⟩
   rw [wsucc (by omega)]; exact hb
theorem irreducible_l0 (p : Int) (mod : List Int) (hp : 2 ≤ p ∧ p ≤ 256) (hm : Ent p mod) (hl : mod.length ≤ 8) (hpow : p ^ mod.length ≤ 256) : ∀ (e d : Nat) (C : Nat), d + e = 10 → 1 ≤ d → (d ≤ mod.length + 1) → (C : Int) = p ^ (d - 1) →
  NoDiv p mod d → ∃ b, Evt (fun k => codewrightref04_irreducible.l0 k mod p C (d : Int)) b ∧ (b = true → NoDiv p mod (mod.length / 2 + 1)) := by
 intro e
 induction e with
 | zero =>
  intro d C hd h1 hdl hC h
  exfalso; omega
 | succ e ih =>
  intro d C hd h1 hdl hC h
  have hw : wrap64 (2 * (d : Int)) = ((2 * d : Nat) : Int) := by rw [w64 (by omega) (by omega)]; omega
  by_cases hle : 2 * d ≤ mod.length
  ·
   have hmono : p ^ d ≤ p ^ mod.length := by
    obtain ⟨P, rfl⟩ := Int.eq_ofNat_of_zero_le (by omega : 0 ≤ p)
    have : P ^ d ≤ P ^ mod.length := Nat.pow_le_pow_right (by omega) (by omega)
    have := Int.ofNat_le.2 this
    rw [Int.natCast_pow, Int.natCast_pow] at this
    exact this
   have hpos : 0 ≤ p ^ d := Int.pow_nonneg (by omega)
   have hCp : (C : Int) * p = p ^ d := by
    rw [hC, ← Int.pow_succ, Nat.succ_eq_add_one, Nat.sub_add_cancel h1]
   obtain ⟨C', hC'⟩ : ∃ C' : Nat, (C' : Int) = p ^ d := ⟨(p ^ d).toNat, by omega⟩
   obtain ⟨b, hb, hq⟩ := irreducible_l1 p mod d hp hm hl h1 (by omega) C' hC' (by omega) (fun b => b = true → NoDiv p mod (mod.length / 2 + 1)) (fun hall => ih (d + 1) C' (by omega) (by omega) (by omega) (by rw [Nat.add_sub_cancel]; exact hC') (fun d' h1' hd' v hv => by
    by_cases hdd : d' = d
    ·
     subst hdd; exact hall v (by omega)
    ·
     exact h d' h1' (by omega) v hv)) (fun h => by simp at h) C' 0 (by omega) (fun u hu => by omega)
   refine ⟨b, Evt.step (fun k => codewrightref04_irreducible.l0.eq_2 ..) (Evt.pos (by omega) ?_), hq⟩
   rw [hCp, ← hC', wnat (by omega)]
   exact hb
  ·
   refine ⟨true, Evt.step (fun k => codewrightref04_irreducible.l0.eq_2 ..) (Evt.neg (by omega) (Evt.now _)), fun _ => fun d' h1' hd' v hv => h d' h1' (by omega) v hv⟩
theorem irreducible_ev (p : Int) (mod : List Int) (hp : 2 ≤ p ∧ p ≤ 256) (hm : Ent p mod) (hl : mod.length ≤ 8) (hpow : p ^ mod.length ≤ 256) :
  ∃ b, Evt (fun k => codewrightref04_irreducible.f k mod p) b ∧ (b = true → NoDiv p mod (mod.length / 2 + 1)) :=
 irreducible_l0 p mod hp hm hl hpow 9 1 1 (by omega) (by omega) (by omega) (by simp) (fun d h1 h2 => by omega)
/-- a field's description that passes Check -/
structure FOK (P M : Int) (mod : List Int) : Prop where
 p2 : 2 ≤ P
 m1 : 1 ≤ M
 m8 : M ≤ 8
 small : P ^ M.toNat ≤ 256
 prime : ∀ c : Nat, 2 ≤ c → (c : Int) < P → ¬ c ∣ P.toNat
 one : M = 1 → mod = []
 len : M ≠ 1 → (mod.length : Int) = M
 ent : M ≠ 1 → Ent P mod
 irr : M ≠ 1 → NoDiv P mod (mod.length / 2 + 1)
theorem FOK.p256 {P M : Int} {mod : List Int} (h : FOK P M mod) : P ≤ 256 := by
 have h1 := h.p2
 have h2 := h.m1
 have h3 := h.small
 obtain ⟨n, hn⟩ : ∃ n, M.toNat = n + 1 := ⟨M.toNat - 1, by omega⟩
 rw [hn, Int.pow_succ] at h3
 have h4 : 1 ≤ P ^ n := Int.pow_pos (by omega)
 have h5 : 1 * P ≤ P ^ n * P := Int.mul_le_mul_of_nonneg_right h4 (by omega)
 omega
theorem check_l0 (P M : Int) (mod : List Int) (hP : 2 ≤ P) (hP2 : P ≤ 256) (hM : 1 ≤ M) (hM8 : M ≤ 8) (hM1 : M ≠ 1) (hpow : P ^ M.toNat ≤ 256) (hpr : ∀ c : Nat, 2 ≤ c → (c : Int) < P → ¬ c ∣ P.toNat) (hlen : (mod.length : Int) = M) : ∀ (e i : Nat), (i : Int) + e = M →
  (∀ j, j < i → 0 ≤ mod.getD j 0 ∧ mod.getD j 0 < P) → ∃ b, Evt (fun k => codewrightref04_Check.l0 k (i : Int) P M mod) b ∧ (b = 0 → FOK P M mod) := by
 intro e
 induction e with
 | zero =>
  intro i hi h
  have hent : Ent P mod := fun c hc => by
   obtain ⟨j, hj, rfl⟩ := List.mem_iff_getElem.1 hc
   have := h j (by omega)
   rw [List.getD_eq_getElem?_getD, List.getElem?_eq_getElem hj] at this
   exact this
  obtain ⟨b, hb, hq⟩ := irreducible_ev P mod ⟨hP, hP2⟩ hent (by omega) (by rw [show mod.length = M.toNat by omega]; exact hpow)
  cases b with
  | true => exact ⟨0, Evt.step (fun k => codewrightref04_Check.l0.eq_2 ..) (Evt.neg (by omega) (Evt.bind hb (Evt.pos rfl (Evt.now _)))), fun _ => ⟨hP, hM, hM8, hpow, hpr, fun h => absurd h hM1, fun _ => hlen, fun _ => hent, fun _ => hq rfl⟩⟩
  | false => exact ⟨1, Evt.step (fun k => codewrightref04_Check.l0.eq_2 ..) (Evt.neg (by omega) (Evt.bind hb (Evt.neg (by simp) (Evt.now _)))), fun h => by omega⟩
 | succ e ih =>
  intro i hi h
  by_cases h0 : mod.getD i 0 < 0
  ·
   exact ⟨1, Evt.step (fun k => codewrightref04_Check.l0.eq_2 ..) (Evt.pos (by omega) (Evt.pos (by omega) (Evt.pos (by omega) (Evt.pos h0 (Evt.now _))))), fun h => by omega⟩
  ·
   by_cases h1 : mod.getD i 0 ≥ P
   ·
    exact ⟨1, Evt.step (fun k => codewrightref04_Check.l0.eq_2 ..) (Evt.pos (by omega) (Evt.pos (by omega) (Evt.pos (by omega) (Evt.neg h0 (Evt.pos h1 (Evt.now _)))))), fun h => by omega⟩
   ·
    obtain ⟨b, hb, hq⟩ := ih (i + 1) (by omega) (fun j hj => by
     by_cases hji : j = i
     ·
      rw [hji]; omega
     ·
      exact h j (by omega))
    refine ⟨b, Evt.step (fun k => codewrightref04_Check.l0.eq_2 ..) (Evt.pos (by omega) (Evt.pos (by omega) (Evt.pos (by omega) (Evt.neg h0 (Evt.neg h1 ?_))))), hq⟩
    rw [wsucc (by omega)]; exact hb
theorem check_ev (P M : Int) (mod : List Int) : ∃ e, Evt (fun k => codewrightref04_Check.f k P M mod) e ∧ (e = 0 → FOK P M mod) := by

 unfold codewrightref04_Check.f
 obtain ⟨o, ho, hio⟩ := order_ev P M mod
 have bad : Evt (fun k => codewrightref04_Check.j0 k true P M mod) 1 := Evt.step (fun k => codewrightref04_Check.j0.eq_2 ..) (Evt.pos rfl (Evt.now _))
 by_cases h0 : o = 0
 ·
  exact ⟨1, Evt.bind ho (Evt.pos h0 bad), fun h => by omega⟩
 ·
  rcases hio with h | ⟨hP, hM, hM8, hoe, ho2⟩
  ·
   exact absurd h h0
  ·
   have hpow : P ^ M.toNat ≤ 256 := by omega
   have hP2 : P ≤ 256 := by
    obtain ⟨n, hn⟩ : ∃ n, M.toNat = n + 1 := ⟨M.toNat - 1, by omega⟩
    rw [hn, Int.pow_succ] at hpow
    have h4 : 1 ≤ P ^ n := Int.pow_pos (by omega)
    have h5 : 1 * P ≤ P ^ n * P := Int.mul_le_mul_of_nonneg_right h4 (by omega)
    omega
   obtain ⟨Q, rfl⟩ := Int.eq_ofNat_of_zero_le (by omega : 0 ≤ P)
   obtain ⟨b, hb, hpr⟩ := prime_ev Q (by omega) (by omega)
   cases b with
   | false => exact ⟨1, Evt.bind ho (Evt.neg h0 (Evt.bind hb bad)), fun h => by omega⟩
   | true =>
    have hpr' : ∀ c : Nat, 2 ≤ c → (c : Int) < (Q : Int) → ¬ c ∣ (Q : Int).toNat := fun c h2 hc => by rw [Int.toNat_natCast]; exact hpr rfl c h2 (by omega)
    by_cases hM1 : M = 1
    ·
     by_cases hl0 : (mod.length : Int) = 0
     ·
      refine ⟨0, Evt.bind ho (Evt.neg h0 (Evt.bind hb (Evt.step (fun k => codewrightref04_Check.j0.eq_2 ..) (Evt.neg (by simp) (Evt.pos hM1 (Evt.pos hl0 (Evt.now _))))))), fun _ => ⟨hP, hM, hM8, hpow, hpr', fun _ => List.length_eq_zero_iff.1 (by omega), fun h => absurd hM1 h, fun h => absurd hM1 h, fun h => absurd hM1 h⟩⟩
     ·
      exact ⟨1, Evt.bind ho (Evt.neg h0 (Evt.bind hb (Evt.step (fun k => codewrightref04_Check.j0.eq_2 ..) (Evt.neg (by simp) (Evt.pos hM1 (Evt.neg hl0 (Evt.now _))))))), fun h => by omega⟩
    ·
     by_cases hlen : (mod.length : Int) = M
     ·
      obtain ⟨e, he, hq⟩ := check_l0 Q M mod hP hP2 hM hM8 hM1 hpow hpr' hlen M.toNat 0 (by omega) (fun j hj => by omega)
      exact ⟨e, Evt.bind ho (Evt.neg h0 (Evt.bind hb (Evt.step (fun k => codewrightref04_Check.j0.eq_2 ..) (Evt.neg (by simp) (Evt.neg hM1 (Evt.pos hlen he)))))), hq⟩
     ·
      exact ⟨1, Evt.bind ho (Evt.neg h0 (Evt.bind hb (Evt.step (fun k => codewrightref04_Check.j0.eq_2 ..) (Evt.neg (by simp) (Evt.neg hM1 (Evt.neg hlen (Evt.now _))))))), fun h => by omega⟩
theorem order_ok {P M : Int} {mod : List Int} (h : FOK P M mod) : Evt (fun k => codewrightref04_Order.f k P M mod) (P ^ M.toNat) := by
 unfold codewrightref04_Order.f
 have h1 := h.p2
 have h2 := h.m1
 have h3 := h.m8
 obtain ⟨P, rfl⟩ := Int.eq_ofNat_of_zero_le (by omega : 0 ≤ P)
 obtain ⟨M, rfl⟩ := Int.eq_ofNat_of_zero_le (by omega : 0 ≤ M)
 have hs := h.small
 rw [Int.toNat_natCast] at *
 have hmono : ∀ i, i ≤ M → (P : Int) ^ i ≤ 256 := fun i hi => by
  have : P ^ i ≤ P ^ M := Nat.pow_le_pow_right (by omega) hi
  have := Int.ofNat_le.2 this
  rw [Int.natCast_pow, Int.natCast_pow] at this
  omega
 have loop : ∀ (e i : Nat), i + e = M → Evt (fun k => codewrightref04_Order.l0 k ((P : Int) ^ i) (i : Int) P M mod) ((P : Int) ^ M) := by
  intro e
  induction e with
  | zero =>
   intro i hi
   have : i = M := by omega
   subst this
   exact Evt.step (fun k => codewrightref04_Order.l0.eq_2 ..) (Evt.neg (by omega) (Evt.now _))
  | succ e ih =>
   intro i hi
   have h4 := hmono (i + 1) (by omega)
   have h5 : 0 ≤ (P : Int) ^ i := Int.pow_nonneg (by omega)
   have hdiv : 0 ≤ (256 : Int) / P ∧ (256 : Int) / P ≤ 256 := ⟨Int.ediv_nonneg (by omega) (by omega), Int.ediv_le_self _ (by omega)⟩
   refine Evt.step (fun k => codewrightref04_Order.l0.eq_2 ..) (Evt.pos (by omega) (Evt.neg (by omega) (Evt.neg ?_ ?_)))
   ·
    rw [tdivp (a := 256) (by omega), w64 (x := (256 : Int) / P) (by omega) (by omega)]
    rw [Int.pow_succ] at h4
    have := (Int.le_ediv_iff_mul_le (by omega : (0 : Int) < P)).2 h4
    omega
   ·
    rw [← Int.pow_succ, w64 (x := (P : Int) ^ (i + 1)) (by have : 0 ≤ (P : Int) ^ (i + 1) := Int.pow_nonneg (by omega); omega) (by omega), wsucc (by omega)]
    exact ih (i + 1) (by omega)
 refine Evt.neg (by omega) (Evt.neg (by omega) ?_)
 rw [decide_eq_false (by omega : ¬ (M : Int) > 8)]
 exact Evt.step (fun k => codewrightref04_Order.j0.eq_2 ..) (Evt.neg (by simp) (loop M 0 (by omega)))
end Go.Proofs.Ytpjpbhjpobdenaa.BoundsLinearC
/- What the printed reference functions on field elements compute: Is, In, Digits, Value, Add, Mul. -/
namespace Go.Proofs.Ytpjpbhjpobdenaa.BoundsLinearC
open Go.RowKit Go.Proofs.Ytpjpbhjpobdenaa.PBoundsLinear Go.Proofs.YtpjpbhjpobdenaaW.PrintWords Go.Proofs.YtpjpbhjpobdenaaW.PrintLast Go.Proofs.YtpjpbhjpobdenaaW.PrintMore Cw
section
variable {P M : Nat} {mod : List Int}
/-- a field with whole numbers for P and M -/
def FN (P M : Nat) (mod : List Int) : Prop := FOK (P : Int) (M : Int) mod
theorem FN.q (h : FN P M mod) : 2 ≤ P ∧ P ≤ 256 ∧ 1 ≤ M ∧ M ≤ 8 ∧ (P : Int) ^ M ≤ 256 ∧ (2 : Int) ≤ (P : Int) ^ M := by
 have h1 := h.p2
 have h2 := h.m1
 have h3 := h.m8
 have h4 := h.small
 have h5 := h.p256
 rw [Int.toNat_natCast] at h4
 obtain ⟨n, rfl⟩ : ∃ n, M = n + 1 := ⟨M - 1, by omega⟩
 have h6 : (1 : Int) ≤ (P : Int) ^ n := Int.pow_pos (by omega)
 have h7 : 1 * (P : Int) ≤ (P : Int) ^ n * P := Int.mul_le_mul_of_nonneg_right h6 (by omega)
 have e : (P : Int) ^ (n + 1) = (P : Int) ^ n * P := Int.pow_succ ..
 exact ⟨by omega, by omega, by omega, by omega, h4, by omega⟩
theorem FN.order (h : FN P M mod) : Evt (fun k => codewrightref04_Order.f k P M mod) ((P : Int) ^ M) := by
 have := order_ok h
 rw [Int.toNat_natCast] at this
 exact this
theorem FN.low (h : FN P M mod) : (lowOf M mod).length = M := by
 unfold lowOf
 by_cases h1 : M = 1
 ·
  rw [if_pos h1, h1]; rfl
 ·
  rw [if_neg h1]
  have := h.len (by omega)
  omega
theorem in_ev (h : FN P M mod) (x : Int) : Evt (fun k => codewrightref04_In.f k P M mod x) (fin ((P : Int) ^ M) x) := by
 unfold codewrightref04_In.f codewrightref04_Is.f
 by_cases h0 : x ≥ 0
 ·
  by_cases h1 : x < (P : Int) ^ M
  ·
   rw [fin_self h0 h1]
   exact Evt.bind (a := true) (Evt.pos h0 (Evt.bind h.order (Evt.now' (decide_eq_true h1)))) (Evt.pos rfl (Evt.now _))
  ·
   have e : fin ((P : Int) ^ M) x = 0 := if_neg (fun h => h1 h.2)
   rw [e]
   exact Evt.bind (a := false) (Evt.pos h0 (Evt.bind h.order (Evt.now' (decide_eq_false h1)))) (Evt.neg (by simp) (Evt.now _))
 ·
  have e : fin ((P : Int) ^ M) x = 0 := if_neg (fun h => h0 h.1)
  rw [e]
  exact Evt.bind (a := false) (Evt.neg h0 (Evt.now _)) (Evt.neg (by simp) (Evt.now _))
theorem digits04_ev (h : FN P M mod) (x : Int) : Evt (fun k => codewrightref04_Digits.f k P M mod x) (digs P M (fin ((P : Int) ^ M) x)) := by
 unfold codewrightref04_Digits.f
 obtain ⟨h1, h2, h3, h4, h5, h6⟩ := h.q
 have hf := fin_in (q := (P : Int) ^ M) (by omega) x
 exact Evt.bind (in_ev h x) (Evt.bind (digits_ev P M _ (by omega) (by omega) (by omega) hf.1 (by omega)) (Evt.now _))
theorem value_l0 (hP : 2 ≤ P) (hP2 : P ≤ 256) (l : List Int) (hl : l.length ≤ 8) (he : Ent P l) (hq : (P : Int) ^ l.length ≤ 256) (M : Int) : ∀ i : Nat, i ≤ l.length →
  Evt (fun k => codewrightref04_Value.l0 k l (ev (l.drop i) P) ((i : Int) - 1) P M mod) (ev l P) := by
 intro i
 induction i with
 | zero => intro _; exact Evt.step (fun k => codewrightref04_Value.l0.eq_2 ..) (Evt.neg (by omega) (Evt.now _))
 | succ i ih =>
  intro hi
  have hd := List.drop_eq_getElem_cons (show i < l.length by omega)
  have hg : l.getD i 0 = l[i] := by rw [List.getD_eq_getElem?_getD, List.getElem?_eq_getElem (by omega)]; rfl
  have e : ev (l.drop i) P = l.getD i 0 + P * ev (l.drop (i + 1)) P := by rw [hd, ev_cons, hg]
  have hr : ∀ j, 0 ≤ ev (l.drop j) P ∧ ev (l.drop j) P ≤ 256 := fun j => by
   have h1 := ev_range (p := (P : Int)) (by omega) (n := (l.drop j).length) (d := l.drop j) ⟨rfl, fun c hc => he c (List.mem_of_mem_drop hc)⟩
   have h2 : (P : Int) ^ (l.drop j).length ≤ (P : Int) ^ l.length := by
    have : P ^ (l.drop j).length ≤ P ^ l.length := Nat.pow_le_pow_right (by omega) (by rw [List.length_drop]; omega)
    have := Int.ofNat_le.2 this
    rw [Int.natCast_pow, Int.natCast_pow] at this
    exact this
   omega
  have h1 := hr (i + 1)
  have h2 := hr i
  have h3 := he.getD (by omega) i
  have h4 : 0 ≤ ev (l.drop (i + 1)) P * P := Int.mul_nonneg h1.1 (by omega)
  refine Evt.step (fun k => codewrightref04_Value.l0.eq_2 ..) ?_
  rw [show (((i + 1 : Nat) : Int) - 1) = (i : Int) by omega, wpred2 (by omega), rd_nat]
  refine Evt.pos (by omega) (Evt.pos (by omega) (Evt.pos (by omega) ?_))
  have e2 : ev (l.drop i) P = ev (l.drop (i + 1)) P * P + l.getD i 0 := by rw [e, Int.mul_comm, Int.add_comm]
  rw [w64 (x := ev (l.drop (i + 1)) P * P) (by omega) (by omega), w64 (x := ev (l.drop (i + 1)) P * P + l.getD i 0) (by omega) (by omega), ← e2]
  exact ih (by omega)
theorem value_ev (hP : 2 ≤ P) (hP2 : P ≤ 256) (l : List Int) (hl : l.length ≤ 8) (he : Ent P l) (hq : (P : Int) ^ l.length ≤ 256) (M : Int) : Evt (fun k => codewrightref04_Value.f k P M mod l) (ev l P) := by
 unfold codewrightref04_Value.f
 rw [wpred2 (by omega)]
 have := value_l0 (mod := mod) hP hP2 l hl he hq M l.length (Nat.le_refl _)
 rw [List.drop_of_length_le (Nat.le_refl _)] at this
 exact this
theorem add_l0 (h : FN P M mod) (a b : List Int) (ha : Red P M a) (hb : Red P M b) : ∀ (e i : Nat) (r : List Int), i + e = M → r.length = M → (∀ j, j < i → r.getD j 0 = (a.getD j 0 + b.getD j 0) % P) → (∀ j, i ≤ j → r.getD j 0 = a.getD j 0) →
  Evt (fun k => codewrightref04_Add.l0 k r b (i : Int) P M mod) (ev (zadd P a b) P) := by
 obtain ⟨h1, h2, h3, h4, h5, h6⟩ := h.q
 have hal := ha.1
 have hbl := hb.1
 intro e
 induction e with
 | zero =>
  intro i r hi hr hlo hhi
  have hz := zadd_red (p := (P : Int)) (by omega) a b (by rw [hal, hbl])
  have : r = zadd P a b := ext_getD (by rw [hz.1, hr, hal]) (fun j hj => by rw [hlo j (by omega), zadd_getD _ _ _ _ (by rw [hal, hbl]) (by omega)])
  refine Evt.step (fun k => codewrightref04_Add.l0.eq_2 ..) (Evt.neg (by omega) (Evt.bind ?_ (Evt.now _)))
  rw [this]
  exact value_ev h1 h2 _ (by rw [hz.1]; omega) hz.2 (by rw [hz.1, hal]; omega) M
 | succ e ih =>
  intro i r hi hr hlo hhi
  have hx := ha.getD (by omega) i
  have hy := hb.getD (by omega) i
  refine Evt.step (fun k => codewrightref04_Add.l0.eq_2 ..) (Evt.pos (by omega) (Evt.pos (by omega) (Evt.pos (by omega) (Evt.neg (by omega) ?_))))
  rw [rd_nat, rd_nat, hhi i (Nat.le_refl _), w64 (x := a.getD i 0 + b.getD i 0) (by omega) (by omega), tmodp (by omega), wsucc (by omega), Int.toNat_natCast]
  refine ih (i + 1) _ (by omega) (by rw [List.length_set]; exact hr) (fun j hj => ?_) (fun j hj => by rw [lset_ne _ _ _ _ (by omega)]; exact hhi j (by omega))
  by_cases hji : j = i
  ·
   rw [hji, lset_self _ _ _ (by omega)]
  ·
   rw [lset_ne _ _ _ _ (by omega)]; exact hlo j (by omega)
theorem fadd_ev (h : FN P M mod) (x y : Int) : Evt (fun k => codewrightref04_Add.f k P M mod x y) (fadd P M mod x y) := by
 unfold codewrightref04_Add.f
 obtain ⟨h1, h2, h3, h4, h5, h6⟩ := h.q
 have ha := digs_red (p := (P : Int)) (by omega) M (fin ((P : Int) ^ M) x)
 have hb := digs_red (p := (P : Int)) (by omega) M (fin ((P : Int) ^ M) y)
 refine Evt.bind (digits04_ev h x) (Evt.bind (digits04_ev h y) ((add_l0 h _ _ ha hb M 0 _ (by omega) ha.1 (fun j hj => by omega) (fun j _ => rfl)).eq ?_))
 have hl : (digs (P : Int) M (fin ((P : Int) ^ M) x)).length = (digs (P : Int) M (fin ((P : Int) ^ M) y)).length := by rw [ha.1, hb.1]
 have hz := zadd_red (p := (P : Int)) (by omega) _ _ hl
 unfold fadd
 rw [redl_eq (by omega) (by rw [h.low]; exact ⟨(zadd_length _ _ _ hl).trans ha.1, hz.2⟩) (zadd_cong (P : Int) _ _ _ hl)]
/-- i coefficients of a, and j of b with a's entry i, are multiplied -/
def MulInv (p : Int) (a b c : List Int) (i j : Nat) : Prop :=
 ∃ u : List Int, ∀ t, ev c t = ev (a.take i) t * ev b t + a.getD i 0 * ev (b.take j) t * t ^ i + p * ev u t
theorem MulInv.step {p : Int} {a b c : List Int} {i j : Nat} (h : MulInv p a b c i j) (hs : i + j < c.length) :
  MulInv p a b (c.set (i + j) ((c.getD (i + j) 0 + a.getD i 0 * b.getD j 0) % p)) i (j + 1) := by
 obtain ⟨u, hu⟩ := h
 have e1 := Int.emod_add_mul_ediv (c.getD (i + j) 0 + a.getD i 0 * b.getD j 0) p
 generalize (c.getD (i + j) 0 + a.getD i 0 * b.getD j 0) / p = q at *
 refine ⟨padd u (List.replicate (i + j) 0 ++ [-q]), fun t => ?_⟩
 rw [ev_set' _ _ _ _ hs, hu t, ev_take_succ' _ b, ev_padd, ev_append, ev_replicate_zero, List.length_replicate]
 simp only [ev_cons, ev_nil, Int.mul_zero, Int.add_zero, Int.zero_add]
 generalize (c.getD (i + j) 0 + a.getD i 0 * b.getD j 0) % p = m at *
 have e2 : m = c.getD (i + j) 0 + a.getD i 0 * b.getD j 0 - p * q := by omega
 rw [e2, Int.pow_add]
 generalize t ^ i = A
 generalize t ^ j = B
 generalize ev (b.take j) t = L
 generalize ev (a.take i) t * ev b t = R
 generalize ev u t = X
 generalize c.getD (i + j) 0 = y
 generalize a.getD i 0 = z
 generalize b.getD j 0 = v
 clear hu e1 e2
 grind
theorem MulInv.next {p : Int} {a b c : List Int} {i : Nat} (h : MulInv p a b c i b.length) : MulInv p a b c (i + 1) 0 := by
 obtain ⟨u, hu⟩ := h
 refine ⟨u, fun t => ?_⟩
 rw [hu t, ev_take_succ' _ a, List.take_length, List.take_zero, ev_nil, Int.mul_zero, Int.zero_mul, Int.add_zero, Int.add_mul, Int.mul_right_comm]
theorem mul_entry {p x a b : Int} (hp : 2 ≤ p ∧ p ≤ 256) (hx : 0 ≤ x ∧ x < p) (ha : 0 ≤ a ∧ a < p) (hb : 0 ≤ b ∧ b < p) :
  Int.tmod (wrap64 (x + wrap64 (a * b))) p = (x + a * b) % p ∧ 0 ≤ (x + a * b) % p ∧ (x + a * b) % p < p := by
 have h0 : 0 ≤ a * b := Int.mul_nonneg (by omega) (by omega)
 have h1 : a * b ≤ 256 * 256 := by
  have h2 : a * b ≤ 256 * b := Int.mul_le_mul_of_nonneg_right (by omega) (by omega)
  omega
 rw [w64 (x := a * b) (by omega) (by omega), w64 (x := x + a * b) (by omega) (by omega), tmodp (by omega)]
 exact ⟨rfl, Int.emod_nonneg _ (by omega), Int.emod_lt_of_pos _ (by omega)⟩
/-- the reduction, from the highest power on -/
theorem mul_l2 (h : FN P M mod) (pr : List Int) : ∀ (i : Nat) (c : List Int), M ≤ i → i ≤ c.length → c.length ≤ 2 * M - 1 → (∀ z, z < c.length → 0 ≤ c.getD z 0 ∧ c.getD z 0 < P) → Cong P (lowOf M mod) (c.take i) pr →
  Evt (fun k => codewrightref04_Mul.l2 k c ((i : Int) - 1) P M mod) (ev (redl P (lowOf M mod) pr) P) := by
 obtain ⟨h1, h2, h3, h4, h5, h6⟩ := h.q
 intro i
 have fin : ∀ c : List Int, M ≤ c.length → (∀ z, z < c.length → 0 ≤ c.getD z 0 ∧ c.getD z 0 < P) → Cong P (lowOf M mod) (c.take M) pr →
   Evt (fun k => codewrightref04_Mul.l2 k c ((M : Int) - 1) P M mod) (ev (redl P (lowOf M mod) pr) P) := by
  intro c hcl hc hcong
  have hent : Ent P (c.take M) := fun x hx => by
   obtain ⟨z, hz, rfl⟩ := List.mem_iff_getElem.1 hx
   rw [List.length_take] at hz
   have := hc z (by omega)
   rw [List.getD_eq_getElem?_getD, List.getElem?_eq_getElem (by omega)] at this
   simpa using this
  have hlen : (c.take M).length = M := by rw [List.length_take]; omega
  rw [redl_eq (r := c.take M) (by omega) (by rw [h.low]; exact ⟨hlen, hent⟩) hcong]
  refine Evt.step (fun k => codewrightref04_Mul.l2.eq_2 ..) (Evt.neg (by omega) (Evt.pos (by omega) (Evt.pos (by omega) (Evt.bind ?_ (Evt.now _)))))
  rw [Int.toNat_natCast]
  exact value_ev h1 h2 _ (by omega) hent (by rw [hlen]; omega) M
 induction i with
 | zero => intro c hM; omega
 | succ i ih =>
  intro c hMi hil hcl hc hcong
  by_cases heq : M = i + 1
  ·
   have := fin c (by omega) hc (by rw [heq]; rw [heq] at hcong; exact hcong)
   rw [heq] at this ⊢
   exact this
  ·
   have hM1 : M ≠ 1 := by omega
   have hlow : lowOf M mod = mod := if_neg hM1
   have hml : mod.length = M := by have := h.low; rw [hlow] at this; exact this
   have hme : Ent P mod := h.ent (by omega)
   have hci := hc i (by omega)
   -- the inner loop
   have inner : ∀ (e j : Nat) (c' : List Int), j + e = M → c'.length = c.length → (∀ z, z < c'.length → 0 ≤ c'.getD z 0 ∧ c'.getD z 0 < P) → (∀ z, i ≤ z → c'.getD z 0 = c.getD z 0) → RedInv P mod (c.take (i + 1)) (c'.take (i + 1)) (c.getD i 0) (i - M) j →
     Evt (fun k => codewrightref04_Mul.l3 k c' (i : Int) (j : Int) P M mod) (ev (redl P (lowOf M mod) pr) P) := by
    intro e
    induction e with
    | zero =>
     intro j c' hj hcl' hc' hz hinv
     have hjM : j = M := by omega
     subst hjM
     have hlen : (c'.take (i + 1)).length = i + 1 := by rw [List.length_take]; omega
     have hg : (c'.take (i + 1)).getD i 0 = c.getD i 0 := by
      rw [List.getD_eq_getElem?_getD, List.getElem?_take, if_pos (by omega), ← List.getD_eq_getElem?_getD]; exact hz i (Nat.le_refl _)
     have hinv' : RedInv P mod (c.take (i + 1)) (c'.take (i + 1)) (c.getD i 0) (i - j) mod.length := by rw [hml]; exact hinv
     have hcg := hinv'.cong (by omega) (by rw [show i - j + mod.length = i by omega]; exact hg)
     rw [show i - j + mod.length = i by omega] at hcg
     have hcg2 : Cong P (lowOf j mod) (c'.take i) pr := by
      rw [hlow] at hcong ⊢
      refine (Cong.of_ev fun t => ?_).trans (hcg.trans hcong)
      rw [ev_set' _ _ _ _ (by omega), hg, ev_take_succ', hz i (Nat.le_refl _)]
      rw [Int.sub_mul, Int.zero_mul]
      generalize c.getD i 0 * t ^ i = X
      omega
     refine Evt.step (fun k => codewrightref04_Mul.l3.eq_2 ..) (Evt.neg (by omega) ?_)
     rw [wpred2 (by omega)]
     exact ih c' (by omega) (by omega) (by omega) hc' hcg2
    | succ e ihe =>
     intro j c' hj hcl' hc' hz hinv
     have hx := hc' (i - M + j) (by omega)
     have hl := hme.getD (by omega) j
     obtain ⟨e1, e2, e3⟩ := red_entry (p := (P : Int)) ⟨by omega, by omega⟩ hx hci hl
     refine Evt.step (fun k => codewrightref04_Mul.l3.eq_2 ..) (Evt.pos (by omega) ?_)
     rw [wsub (i := i) (j := M) (by omega) (by omega), wadd (by omega), wsucc (by omega)]
     refine Evt.pos (by omega) (Evt.pos (by omega) (Evt.pos (by omega) (Evt.pos (by omega) (Evt.pos (by omega) (Evt.pos (by omega) (Evt.neg (by omega) ?_))))))
     rw [rd_nat, rd_nat, rd_nat, hz i (Nat.le_refl _), Int.toNat_natCast, e1]
     refine ihe (j + 1) _ (by omega) (by rw [List.length_set]; exact hcl') (fun z hzl => ?_) (fun z hzi => by rw [lset_ne _ _ _ _ (by omega)]; exact hz z hzi) ?_
     ·
      rw [List.length_set] at hzl
      by_cases hze : z = i - M + j
      ·
       rw [hze, lset_self _ _ _ (by omega)]; exact ⟨e2, e3⟩
      ·
       rw [lset_ne _ _ _ _ (by omega)]; exact hc' z hzl
     ·
      have hst := hinv.step (by rw [List.length_take]; omega)
      have hg : (c'.take (i + 1)).getD (i - M + j) 0 = c'.getD (i - M + j) 0 := by
       rw [List.getD_eq_getElem?_getD, List.getElem?_take, if_pos (by omega), ← List.getD_eq_getElem?_getD]
      rw [hg] at hst
      rw [List.take_set]
      exact hst
   refine Evt.step (fun k => codewrightref04_Mul.l2.eq_2 ..) ?_
   rw [show (((i + 1 : Nat) : Int) - 1) = (i : Int) by omega]
   exact Evt.pos (by omega) (inner M 0 c (by omega) rfl hc (fun z _ => rfl) (RedInv.start ..))
theorem mul_l0 (h : FN P M mod) (a b : List Int) (ha : Red P M a) (hb : Red P M b) : ∀ (e i : Nat) (c : List Int), i + e = M → c.length = 2 * M - 1 → (∀ z, z < c.length → 0 ≤ c.getD z 0 ∧ c.getD z 0 < P) → MulInv P a b c i 0 →
  Evt (fun k => codewrightref04_Mul.l0 k a b c (i : Int) P M mod) (ev (redl P (lowOf M mod) (pmul a b)) P) := by
 obtain ⟨h1, h2, h3, h4, h5, h6⟩ := h.q
 have hal := ha.1
 have hbl := hb.1
 intro e
 induction e with
 | zero =>
  intro i c hi hcl hc hinv
  have hiM : i = M := by omega
  subst hiM
  refine Evt.step (fun k => codewrightref04_Mul.l0.eq_2 ..) (Evt.neg (by omega) ?_)
  rw [show wrap64 (wrap64 (2 * (i : Int)) - 2) = ((2 * i - 1 : Nat) : Int) - 1 by rw [w64 (x := 2 * (i : Int)) (by omega) (by omega), w64 (by omega) (by omega)]; omega]
  refine mul_l2 h (pmul a b) (2 * i - 1) c (by omega) (by omega) (by omega) hc ?_
  rw [List.take_of_length_le (by omega)]
  obtain ⟨u, hu⟩ := hinv
  refine ⟨[], u, fun t => ?_⟩
  rw [hu t, List.take_of_length_le (by omega), List.take_zero, ev_pmul, ev_nil]
  simp
 | succ e ih =>
  intro i c hi hcl hc hinv
  have hx := ha.getD (by omega) i
  have inner : ∀ (e j : Nat) (c : List Int), j + e = M → c.length = 2 * M - 1 → (∀ z, z < c.length → 0 ≤ c.getD z 0 ∧ c.getD z 0 < P) → MulInv P a b c i j →
    Evt (fun k => codewrightref04_Mul.l1 k a b c (i : Int) (j : Int) P M mod) (ev (redl P (lowOf M mod) (pmul a b)) P) := by
   intro e
   induction e with
   | zero =>
    intro j c hj hcl hc hinv
    refine Evt.step (fun k => codewrightref04_Mul.l1.eq_2 ..) (Evt.neg (by omega) ?_)
    rw [wsucc (by omega)]
    have : j = b.length := by omega
    subst this
    exact ih (i + 1) c (by omega) hcl hc hinv.next
   | succ e ihe =>
    intro j c hj hcl hc hinv
    have hy := hb.getD (by omega) j
    have hz := hc (i + j) (by omega)
    obtain ⟨e1, e2, e3⟩ := mul_entry (p := (P : Int)) ⟨by omega, by omega⟩ hz hx hy
    refine Evt.step (fun k => codewrightref04_Mul.l1.eq_2 ..) (Evt.pos (by omega) ?_)
    rw [wadd (by omega), wsucc (by omega)]
    refine Evt.pos (by omega) (Evt.pos (by omega) (Evt.pos (by omega) (Evt.pos (by omega) (Evt.pos (by omega) (Evt.pos (by omega) (Evt.neg (by omega) ?_))))))
    rw [rd_nat, rd_nat, rd_nat, Int.toNat_natCast, e1]
    refine ihe (j + 1) _ (by omega) (by rw [List.length_set]; exact hcl) (fun z hzl => ?_) (hinv.step (by omega))
    rw [List.length_set] at hzl
    by_cases hze : z = i + j
    ·
     rw [hze, lset_self _ _ _ (by omega)]; exact ⟨e2, e3⟩
    ·
     rw [lset_ne _ _ _ _ (by omega)]; exact hc z hzl
  exact Evt.step (fun k => codewrightref04_Mul.l0.eq_2 ..) (Evt.pos (by omega) (inner M 0 c (by omega) hcl hc hinv))
theorem fmul_ev (h : FN P M mod) (x y : Int) : Evt (fun k => codewrightref04_Mul.f k P M mod x y) (fmul P M mod x y) := by
 unfold codewrightref04_Mul.f
 obtain ⟨h1, h2, h3, h4, h5, h6⟩ := h.q
 have ha := digs_red (p := (P : Int)) (by omega) M (fin ((P : Int) ^ M) x)
 have hb := digs_red (p := (P : Int)) (by omega) M (fin ((P : Int) ^ M) y)
 refine Evt.bind (digits04_ev h x) (Evt.bind (digits04_ev h y) ?_)
 rw [show wrap64 (wrap64 (2 * (M : Int)) - 1) = ((2 * M - 1 : Nat) : Int) by rw [w64 (x := 2 * (M : Int)) (by omega) (by omega), w64 (by omega) (by omega)]; omega]
 refine Evt.pos (by omega) (Evt.pos (by omega) ?_)
 rw [Int.toNat_natCast]
 exact mul_l0 h _ _ ha hb M 0 _ (by omega) (by simp) (fun z _ => by rw [lzeros_getD]; omega) ⟨[], fun t => by rw [ev_replicate_zero]; simp⟩
end
end Go.Proofs.Ytpjpbhjpobdenaa.BoundsLinearC
/- What the printed reference functions on numbers compute: Trim, Same, limb, Add, Mul, Of, small, Choose, Bits, Pow. -/
namespace Go.Proofs.Ytpjpbhjpobdenaa.BoundsLinearC
open Go.RowKit Go.Proofs.Ytpjpbhjpobdenaa.PBoundsLinear Go.Proofs.YtpjpbhjpobdenaaW.PrintWords Go.Proofs.YtpjpbhjpobdenaaW.PrintLast Go.Proofs.YtpjpbhjpobdenaaW.PrintMore Cw
theorem rtrim_l0 (xs : List Int) (n : Nat) (hx : Is xs n) (hl : xs.length ≤ 35184372088831) : ∀ m : Nat, m ≤ xs.length → (∀ i, m ≤ i → i < xs.length → xs.getD i 0 = 0) →
  Evt (fun k => codewrightref01_Trim.l0 k xs m) (enc n) := by
 intro m
 induction m with
 | zero =>
  intro hm h
  refine Evt.step (fun k => codewrightref01_Trim.l0.eq_2 ..) (Evt.neg (by omega) (Evt.bind (Evt.now _) (Evt.pos (by omega) (Evt.pos (by omega) (Evt.pos (by simp) (Evt.now' ?_))))))
  exact take_eq_enc hx 0 hm h (.inl rfl)
 | succ m ih =>
  intro hm h
  refine Evt.step (fun k => codewrightref01_Trim.l0.eq_2 ..) ?_
  rw [wpred (by omega)]
  refine Evt.pos (by omega) (Evt.pos (by omega) (Evt.pos (by omega) ?_))
  by_cases hz : rd xs (m : Int) = 0
  ·
   refine Evt.pos hz (ih (by omega) fun i h1 h2 => ?_)
   by_cases hi : i = m
   ·
    rw [hi]; exact hz
   ·
    exact h i (by omega) h2
  ·
   refine Evt.neg hz (Evt.bind (Evt.now _) (Evt.pos (by omega) (Evt.pos (by omega) (Evt.pos (by simp; omega) (Evt.now' ?_)))))
   rw [List.nil_append]
   exact take_eq_enc hx (m + 1) hm h (.inr hz)
theorem rtrim_ev {xs : List Int} {n : Nat} (hx : Is xs n) (hl : xs.length ≤ 35184372088831) : Evt (fun k => codewrightref01_Trim.f k xs) (enc n) :=
 rtrim_l0 xs n hx hl xs.length (Nat.le_refl _) (fun i h1 h2 => by omega)
theorem rof_ev (n : Nat) (h : n < 18446744073709551616) : Evt (fun k => codewrightref01_Of.f k n) (enc n) := by
 unfold codewrightref01_Of.f
 rw [tmodp (by omega), tdivp (by omega), wu64 (by omega) (by omega)]
 refine Evt.bind (rtrim_ev (n := n) ⟨?_, ?_⟩ (by simp)) (Evt.now _)
 ·
  exact Lim.cons (by omega) (by omega) (Lim.cons (by omega) (by omega) Lim.nil)
 ·
  simp only [ev_cons, ev_nil]; omega
end Go.Proofs.Ytpjpbhjpobdenaa.BoundsLinearC
/- What the printed reference function Cmp computes. -/
namespace Go.Proofs.Ytpjpbhjpobdenaa.BoundsLinearC
open Go.RowKit Go.Proofs.Ytpjpbhjpobdenaa.PBoundsLinear Go.Proofs.YtpjpbhjpobdenaaW.PrintWords Go.Proofs.YtpjpbhjpobdenaaW.PrintLast Go.Proofs.YtpjpbhjpobdenaaW.PrintMore Cw
end Go.Proofs.Ytpjpbhjpobdenaa.BoundsLinearC
/- What the printed reference functions on lists of words compute: Distance, Words, Apart, holds. -/
namespace Go.Proofs.Ytpjpbhjpobdenaa.BoundsLinearC
open Go.RowKit Go.Proofs.Ytpjpbhjpobdenaa.PBoundsLinear Go.Proofs.YtpjpbhjpobdenaaW.PrintWords Go.Proofs.YtpjpbhjpobdenaaW.PrintLast Go.Proofs.YtpjpbhjpobdenaaW.PrintMore Cw
theorem rdL1_nat (W : List (List Int)) (i : Nat) : rd_L1 W (i : Int) = W.getD i [] := rfl
theorem dist_drop (a b : List Int) (i : Nat) (ha : i < a.length) (hb : i < b.length) : dist (a.drop i) (b.drop i) = (if a.getD i 0 = b.getD i 0 then 0 else 1) + dist (a.drop (i + 1)) (b.drop (i + 1)) := by
 rw [List.drop_eq_getElem_cons ha, List.drop_eq_getElem_cons hb, dist_cons, List.getD_eq_getElem?_getD, List.getD_eq_getElem?_getD, List.getElem?_eq_getElem ha, List.getElem?_eq_getElem hb]
 rfl
theorem distance_l0 (a b : List Int) (hab : a.length ≤ b.length) (hl : a.length ≤ 1000000000) : ∀ (d i c : Nat), i + d = a.length → c ≤ i → Evt (fun k => codewrightref24_Distance.l0 k a b (c : Int) (i : Int)) ((c + dist (a.drop i) (b.drop i) : Nat) : Int) := by
 intro d
 induction d with
 | zero =>
  intro i c hi hc
  rw [List.drop_of_length_le (by omega), dist_nil]
  exact Evt.step (fun k => codewrightref24_Distance.l0.eq_2 ..) (Evt.neg (by omega) (Evt.now _))
 | succ d ih =>
  intro i c hi hc
  refine Evt.step (fun k => codewrightref24_Distance.l0.eq_2 ..) (Evt.pos (by omega) (Evt.pos (by omega) (Evt.pos (by omega) ?_)))
  rw [dist_drop a b i (by omega) (by omega), wsucc (by omega), wsucc (by omega), rd_nat, rd_nat]
  by_cases h : a.getD i 0 = b.getD i 0
  ·
   refine Evt.pos h ?_
   rw [if_pos h, Nat.zero_add]
   exact ih (i + 1) c (by omega) (by omega)
  ·
   refine Evt.neg h ?_
   rw [if_neg h, ← Nat.add_assoc]
   exact ih (i + 1) (c + 1) (by omega) (by omega)
theorem distance_ev (a b : List Int) (hab : a.length ≤ b.length) (hl : a.length ≤ 1000000000) : Evt (fun k => codewrightref24_Distance.f k a b) ((dist a b : Nat) : Int) := by
 have := distance_l0 a b hab hl a.length 0 0 (by omega) (by omega)
 rw [Nat.zero_add] at this
 exact this
end Go.Proofs.Ytpjpbhjpobdenaa.BoundsLinearC
/- What the printed functions of package nat compute: short, Trim, Of, plus, Add, times, Mul. -/
namespace Go.Proofs.Ytpjpbhjpobdenaa.BoundsLinearC
open Go.RowKit Go.Proofs.Ytpjpbhjpobdenaa.PBoundsLinear Go.Proofs.YtpjpbhjpobdenaaW.PrintWords Go.Proofs.YtpjpbhjpobdenaaW.PrintLast Go.Proofs.YtpjpbhjpobdenaaW.PrintMore Cw
end Go.Proofs.Ytpjpbhjpobdenaa.BoundsLinearC
/- What the printed functions of package nat compute: times, Mul, Add, digit, Binomial, Bits, Pow. -/
namespace Go.Proofs.Ytpjpbhjpobdenaa.BoundsLinearC
open Go.RowKit Go.Proofs.Ytpjpbhjpobdenaa.PBoundsLinear Go.Proofs.YtpjpbhjpobdenaaW.PrintWords Go.Proofs.YtpjpbhjpobdenaaW.PrintLast Go.Proofs.YtpjpbhjpobdenaaW.PrintMore Cw
end Go.Proofs.Ytpjpbhjpobdenaa.BoundsLinearC
/- What the printed functions of package nat compute: Bits, Pow. -/
namespace Go.Proofs.Ytpjpbhjpobdenaa.BoundsLinearC
open Go.RowKit Go.Proofs.Ytpjpbhjpobdenaa.PBoundsLinear Go.Proofs.YtpjpbhjpobdenaaW.PrintWords Go.Proofs.YtpjpbhjpobdenaaW.PrintLast Go.Proofs.YtpjpbhjpobdenaaW.PrintMore Cw
end Go.Proofs.Ytpjpbhjpobdenaa.BoundsLinearC
/- What the printed functions whole, power, choose and volume of bounds compute. -/
namespace Go.Proofs.Ytpjpbhjpobdenaa.BoundsLinearC
open Go.RowKit Go.Proofs.Ytpjpbhjpobdenaa.PBoundsLinear Go.Proofs.YtpjpbhjpobdenaaW.PrintWords Go.Proofs.YtpjpbhjpobdenaaW.PrintLast Go.Proofs.YtpjpbhjpobdenaaW.PrintMore Cw
end Go.Proofs.Ytpjpbhjpobdenaa.BoundsLinearC
/- What the printed reference functions Row, has, Span and All compute, over the unit vectors. -/
namespace Go.Proofs.Ytpjpbhjpobdenaa.BoundsLinearC
open Go.RowKit Go.Proofs.Ytpjpbhjpobdenaa.PBoundsLinear Go.Proofs.YtpjpbhjpobdenaaW.PrintWords Go.Proofs.YtpjpbhjpobdenaaW.PrintLast Go.Proofs.YtpjpbhjpobdenaaW.PrintMore Cw
section
variable {P M : Nat} {mod : List Int}
/-- n entries of a list, as elements -/
def rowl (q : Int) (n : Nat) (l : List Int) : List Int := (List.range n).map (fun i => fin q (l.getD i 0))
theorem rowl_getD (q : Int) (n : Nat) (l : List Int) (i : Nat) (h : i < n) : (rowl q n l).getD i 0 = fin q (l.getD i 0) := by
 unfold rowl
 rw [List.getD_eq_getElem?_getD, List.getElem?_map, List.getElem?_range h]; rfl
theorem rowl_length (q : Int) (n : Nat) (l : List Int) : (rowl q n l).length = n := by simp [rowl]
theorem fin_zero {q : Int} : fin q 0 = 0 := by unfold fin; split <;> rfl
theorem row_l0 (h : FN P M mod) (n : Nat) (hn : n ≤ 1000) (l : List Int) : ∀ (e i : Nat) (r : List Int), i + e = n → r.length = n → (∀ j, j < i → r.getD j 0 = fin ((P : Int) ^ M) (l.getD j 0)) → (∀ j, i ≤ j → r.getD j 0 = 0) →
  Evt (fun k => codewrightref24_Row.l0 k n l r (i : Int) P M mod) (rowl ((P : Int) ^ M) n l) := by
 intro e
 have stop : ∀ (i : Nat) (r : List Int), r.length = n → (∀ j, j < i → r.getD j 0 = fin ((P : Int) ^ M) (l.getD j 0)) → (∀ j, i ≤ j → r.getD j 0 = 0) → (n ≤ i ∨ l.length ≤ i) → r = rowl ((P : Int) ^ M) n l := by
  intro i r hr h1 h2 hor
  refine ext_getD (by rw [hr, rowl_length]) (fun j hj => ?_)
  rw [rowl_getD _ _ _ _ (by omega)]
  by_cases hji : j < i
  ·
   exact h1 j hji
  ·
   rw [h2 j (by omega), getD_none' l j (by omega), fin_zero]
 induction e with
 | zero =>
  intro i r hi hr h1 h2
  refine Evt.step (fun k => codewrightref24_Row.l0.eq_2 ..) (Evt.neg (by omega) (Evt.now' ?_))
  exact stop i r hr h1 h2 (.inl (by omega))
 | succ e ih =>
  intro i r hi hr h1 h2
  by_cases hl : i < l.length
  ·
   refine Evt.step (fun k => codewrightref24_Row.l0.eq_2 ..) (Evt.pos (by omega) (Evt.pos (by omega) (Evt.pos (by omega) ?_)))
   rw [rd_nat, Int.toNat_natCast, wsucc (by omega)]
   refine Evt.bind (in_ev h _) (Evt.pos (by omega) ?_)
   refine ih (i + 1) _ (by omega) (by rw [List.length_set]; exact hr) (fun j hj => ?_) (fun j hj => by rw [lset_ne _ _ _ _ (by omega)]; exact h2 j (by omega))
   by_cases hji : j = i
   ·
    rw [hji, lset_self _ _ _ (by omega)]
   ·
    rw [lset_ne _ _ _ _ (by omega)]; exact h1 j (by omega)
  ·
   refine Evt.step (fun k => codewrightref24_Row.l0.eq_2 ..) (Evt.pos (by omega) (Evt.neg (by omega) (Evt.now' ?_)))
   exact stop i r hr h1 h2 (.inr (by omega))
theorem row_ev (h : FN P M mod) (n : Nat) (hn : n ≤ 1000) (l : List Int) : Evt (fun k => codewrightref24_Row.f k P M mod n l) (rowl ((P : Int) ^ M) n l) := by
 unfold codewrightref24_Row.f
 refine Evt.pos (by omega) (Evt.pos (by omega) ?_)
 rw [Int.toNat_natCast]
 exact row_l0 h n hn l n 0 _ (by omega) (by simp) (fun j hj => by omega) (fun j _ => lzeros_getD _ _)
theorem rowl_isW {q n : Nat} (hq : 1 ≤ q) (l : List Int) : IsW q n (rowl (q : Int) n l) :=
 ⟨rowl_length .., fun x hx => by
  obtain ⟨i, _, rfl⟩ := List.mem_map.1 hx
  exact fin_in (by omega) _⟩
end
end Go.Proofs.Ytpjpbhjpobdenaa.BoundsLinearC
/- What the printed functions of package nat compute: step (Knuth's algorithm D). -/
namespace Go.Proofs.Ytpjpbhjpobdenaa.BoundsLinearC
open Go.RowKit Go.Proofs.Ytpjpbhjpobdenaa.PBoundsLinear Go.Proofs.YtpjpbhjpobdenaaW.PrintWords Go.Proofs.YtpjpbhjpobdenaaW.PrintLast Go.Proofs.YtpjpbhjpobdenaaW.PrintMore Cw
end Go.Proofs.Ytpjpbhjpobdenaa.BoundsLinearC
/- What the printed functions of package nat compute: shift, long, DivMod. -/
namespace Go.Proofs.Ytpjpbhjpobdenaa.BoundsLinearC
open Go.RowKit Go.Proofs.Ytpjpbhjpobdenaa.PBoundsLinear Go.Proofs.YtpjpbhjpobdenaaW.PrintWords Go.Proofs.YtpjpbhjpobdenaaW.PrintLast Go.Proofs.YtpjpbhjpobdenaaW.PrintMore Cw
end Go.Proofs.Ytpjpbhjpobdenaa.BoundsLinearC
/- What the printed function Cmp of nat computes. -/
namespace Go.Proofs.Ytpjpbhjpobdenaa.BoundsLinearC
open Go.RowKit Go.Proofs.Ytpjpbhjpobdenaa.PBoundsLinear Go.Proofs.YtpjpbhjpobdenaaW.PrintWords Go.Proofs.YtpjpbhjpobdenaaW.PrintLast Go.Proofs.YtpjpbhjpobdenaaW.PrintMore Cw
end Go.Proofs.Ytpjpbhjpobdenaa.BoundsLinearC
/- What the printed functions of package nat compute: long, DivMod. -/
namespace Go.Proofs.Ytpjpbhjpobdenaa.BoundsLinearC
open Go.RowKit Go.Proofs.Ytpjpbhjpobdenaa.PBoundsLinear Go.Proofs.YtpjpbhjpobdenaaW.PrintWords Go.Proofs.YtpjpbhjpobdenaaW.PrintLast Go.Proofs.YtpjpbhjpobdenaaW.PrintMore Cw
end Go.Proofs.Ytpjpbhjpobdenaa.BoundsLinearC
/- What the printed reference functions Sub, shift and DivMod compute. -/
namespace Go.Proofs.Ytpjpbhjpobdenaa.BoundsLinearC
open Go.RowKit Go.Proofs.Ytpjpbhjpobdenaa.PBoundsLinear Go.Proofs.YtpjpbhjpobdenaaW.PrintWords Go.Proofs.YtpjpbhjpobdenaaW.PrintLast Go.Proofs.YtpjpbhjpobdenaaW.PrintMore Cw
end Go.Proofs.Ytpjpbhjpobdenaa.BoundsLinearC
/- What the printed functions on fractions compute: Gcd, canonical, Trim; and of the reference: Zero, Gcd, Make, Trim, Sign, Add, Mul, Of, Int. -/
namespace Go.Proofs.Ytpjpbhjpobdenaa.BoundsLinearC
open Go.RowKit Go.Proofs.Ytpjpbhjpobdenaa.PBoundsLinear Go.Proofs.YtpjpbhjpobdenaaW.PrintWords Go.Proofs.YtpjpbhjpobdenaaW.PrintLast Go.Proofs.YtpjpbhjpobdenaaW.PrintMore Cw
theorem rzero_ev {a : List Int} {m : Nat} (ha : Is a m) (hl : a.length ≤ 1000000) : Evt (fun k => codewrightref01_Zero.f k a) (decide (m = 0)) := by
 unfold codewrightref01_Zero.f
 refine Evt.bind (rtrim_ev ha (by omega)) (Evt.now' ?_)
 by_cases h0 : m = 0
 ·
  rw [decide_eq_true h0, h0, enc_zero]; rfl
 ·
  have hp : 0 < (enc m).length := List.length_pos_iff.2 (enc_ne h0)
  rw [decide_eq_false h0]
  exact beq_eq_false_iff_ne.2 (by omega)
end Go.Proofs.Ytpjpbhjpobdenaa.BoundsLinearC
/- What the printed reference functions has, Span, Weights and Least compute for any rows; the field of a description that passes Check. -/
namespace Go.Proofs.Ytpjpbhjpobdenaa.BoundsLinearC
open Go.RowKit Go.Proofs.Ytpjpbhjpobdenaa.PBoundsLinear Go.Proofs.YtpjpbhjpobdenaaW.PrintWords Go.Proofs.YtpjpbhjpobdenaaW.PrintLast Go.Proofs.YtpjpbhjpobdenaaW.PrintMore Cw
section
variable {P M : Nat} {mod : List Int}
theorem FN.irr' (h : FN P M mod) : Irr (P : Int) (lowOf M mod) := by
 obtain ⟨h1, h2, h3, h4, h5, h6⟩ := h.q
 intro g g1 g2 hc
 unfold lowOf at g2 hc
 by_cases hM : M = 1
 ·
  rw [if_pos hM, show ([0] : List Int).length / 2 + 1 = 1 from rfl] at g2
  omega
 ·
  rw [if_neg hM] at g2 hc
  have hred := modp_red (p := (P : Int)) (by omega) g
  have hz := zero_cong hc
  have hr := ev_range (by omega) hred
  obtain ⟨v, hv⟩ := Int.eq_ofNat_of_zero_le hr.1
  have hd := digs_ev (by omega) hred
  rw [hv] at hd hr
  exact h.irr (by omega) g.length g1 g2 v hr.2 (by rw [hd]; exact hz)
theorem FN.fld (h : FN P M mod) : Fld (P ^ M) (fadd P M mod) (fmul P M mod) := by
 obtain ⟨h1, h2, h3, h4, h5, h6⟩ := h.q
 exact Cw.fld h1 (fun c c1 c2 => by have := h.prime c c1 (by omega); rw [Int.toNat_natCast] at this; exact this) h.low h3 h.irr'
theorem has_ev (W : List (List Int)) (x : List Int) (hl : W.length ≤ 1000000) (hW : ∀ w ∈ W, w.length = x.length) (hx : x.length ≤ 1000000) : ∀ (e i : Nat), i + e = W.length → (∀ j, j < i → W.getD j [] ≠ x) →
  Evt (fun k => codewrightref24_has.l0 k W x (i : Int)) (decide (x ∈ W)) := by
 intro e
 induction e with
 | zero =>
  intro i hi h
  refine Evt.step (fun k => codewrightref24_has.l0.eq_2 ..) (Evt.neg (by omega) (Evt.now' ?_))
  symm
  refine decide_eq_false fun hm => ?_
  obtain ⟨j, hj, e⟩ := List.mem_iff_getElem.1 hm
  refine h j (by omega) ?_
  rw [List.getD_eq_getElem?_getD, List.getElem?_eq_getElem hj]; exact e
 | succ e ih =>
  intro i hi h
  have hm : W.getD i [] ∈ W := by
   rw [List.getD_eq_getElem?_getD, List.getElem?_eq_getElem (by omega)]
   exact List.getElem_mem _
  refine Evt.step (fun k => codewrightref24_has.l0.eq_2 ..) (Evt.pos (by omega) (Evt.pos (by omega) ?_))
  rw [rdL1_nat, wsucc (by omega)]
  refine Evt.bind (distance_ev _ _ (by rw [hW _ hm]; omega) (by rw [hW _ hm]; omega)) ?_
  by_cases h0 : dist (W.getD i []) x = 0
  ·
   have he := dist_eq_zero (hW _ hm) h0
   exact Evt.pos (by omega) (Evt.now' (by symm; exact decide_eq_true (by rw [← he]; exact hm)))
  ·
   refine Evt.neg (by omega) (ih (i + 1) (by omega) fun j hj => ?_)
   by_cases hji : j = i
   ·
    rw [hji]; intro e; rw [e] at h0; exact h0 (dist_self x)
   ·
    exact h j (by omega)
theorem gspan_l3 (h : FN P M mod) (n : Nat) (hn : n ≤ 1000) (U S acc : List (List Int)) (r : List Int) (hr : IsW (P ^ M) n r) (a j : Nat) (hj : j < S.length) (hS : S.length ≤ 1000000) (hacc : acc.length ≤ 1100000) (r0 : Int)
  (hw : IsW (P ^ M) n (S.getD j [])) (R : List (List Int))
  (next : Evt (fun k => codewrightref24_Span.l2 k n U 4096 S r0 r (acc ++ [lin (fadd P M mod) (fmul P M mod) a (S.getD j []) r]) (a : Int) ((j + 1 : Nat) : Int) P M mod) R) : ∀ (e x : Nat) (w : List Int), x + e = n → w.length = n → (∀ z, z < x → w.getD z 0 = (lin (fadd P M mod) (fmul P M mod) a (S.getD j []) r).getD z 0) →
  Evt (fun k => codewrightref24_Span.l3 k n U 4096 S r0 r acc (a : Int) (j : Int) w (x : Int) P M mod) R := by
 have hwl := hw.1
 have hrl := hr.1
 intro e
 induction e with
 | zero =>
  intro x w hx hl hlo
  have hw' : w = lin (fadd P M mod) (fmul P M mod) a (S.getD j []) r := ext_getD (by rw [lin_length hwl hrl, hl]) (fun z hz => hlo z (by omega))
  refine Evt.step (fun k => codewrightref24_Span.l3.eq_2 ..) (Evt.neg (by omega) (Evt.pos (by omega) ?_))
  rw [wsucc (by omega), hw']
  exact next
 | succ e ih =>
  intro x w hx hl hlo
  refine Evt.step (fun k => codewrightref24_Span.l3.eq_2 ..) (Evt.pos (by omega) (Evt.pos (by omega) (Evt.pos (by omega) (Evt.pos (by omega) ?_))))
  rw [rdL1_nat, rd_nat, rd_nat, Int.toNat_natCast, wsucc (by omega)]
  refine Evt.pos (by omega) (Evt.pos (by omega) (Evt.bind (fmul_ev h _ _) (Evt.bind (fadd_ev h _ _) (Evt.pos (by omega) ?_))))
  rw [← lin_getD (add := fadd P M mod) (mul := fmul P M mod) (b := (a : Int)) hwl hrl (show x < n by omega)]
  refine ih (x + 1) _ (by omega) (by rw [List.length_set]; exact hl) (fun z hz' => ?_)
  by_cases hzx : z = x
  ·
   rw [hzx, lset_self _ _ _ (by omega)]
  ·
   rw [lset_ne _ _ _ _ (by omega)]; exact hlo z (by omega)
theorem gspan_l2 (h : FN P M mod) (n : Nat) (hn : n ≤ 1000) (U S acc : List (List Int)) (r : List Int) (hr : IsW (P ^ M) n r) (a : Nat) (hS : S.length ≤ 4096) (hacc : acc.length ≤ 1050000) (r0 : Int)
  (hw : ∀ w ∈ S, IsW (P ^ M) n w) (R : List (List Int))
  (next : Evt (fun k => codewrightref24_Span.l1 k n U 4096 S r0 r (acc ++ S.map (fun w => lin (fadd P M mod) (fmul P M mod) a w r)) ((a + 1 : Nat) : Int) P M mod) R) (ha : a < 1000) : ∀ (e j : Nat), j + e = S.length →
  Evt (fun k => codewrightref24_Span.l2 k n U 4096 S r0 r (acc ++ (S.take j).map (fun w => lin (fadd P M mod) (fmul P M mod) a w r)) (a : Int) (j : Int) P M mod) R := by
 intro e
 induction e with
 | zero =>
  intro j hj
  rw [List.take_of_length_le (by omega)]
  refine Evt.step (fun k => codewrightref24_Span.l2.eq_2 ..) (Evt.neg (by omega) ?_)
  rw [wsucc (by omega)]
  exact next
 | succ e ih =>
  intro j hj
  have hm : S.getD j [] ∈ S := by
   rw [List.getD_eq_getElem?_getD, List.getElem?_eq_getElem (by omega)]
   exact List.getElem_mem _
  have ht : S.take (j + 1) = S.take j ++ [S.getD j []] := by
   rw [List.take_add_one, List.getD_eq_getElem?_getD, List.getElem?_eq_getElem (by omega)]; rfl
  have ih' := ih (j + 1) (by omega)
  rw [ht, List.map_append, ← List.append_assoc] at ih'
  have hal : (acc ++ (S.take j).map (fun w => lin (fadd P M mod) (fmul P M mod) (a : Int) w r)).length ≤ 1100000 := by
   rw [List.length_append, List.length_map, List.length_take]; omega
  refine Evt.step (fun k => codewrightref24_Span.l2.eq_2 ..) (Evt.pos (by omega) (Evt.pos (by omega) (Evt.pos (by omega) ?_)))
  rw [Int.toNat_natCast]
  exact gspan_l3 h n hn U S _ r hr a j (by omega) (by omega) hal r0 (hw _ hm) R ih' n 0 _ (by omega) (by simp) (fun z hz => by omega)
theorem gspan_l1 (h : FN P M mod) (n : Nat) (hn : n ≤ 1000) (U S : List (List Int)) (r : List Int) (hr : IsW (P ^ M) n r) (hS : S.length ≤ 4096) (r0 : Nat) (hr0 : r0 ≤ 1000)
  (hw : ∀ w ∈ S, IsW (P ^ M) n w) (R : List (List Int))
  (next : Evt (fun k => codewrightref24_Span.l0 k n U 4096 ((letters (P ^ M)).flatMap (fun a => S.map (fun w => lin (fadd P M mod) (fmul P M mod) a w r))) ((r0 + 1 : Nat) : Int) P M mod) R) : ∀ (e a : Nat), a + e = P ^ M →
  Evt (fun k => codewrightref24_Span.l1 k n U 4096 S (r0 : Int) r ((letters a).flatMap (fun a => S.map (fun w => lin (fadd P M mod) (fmul P M mod) a w r))) (a : Int) P M mod) R := by
 obtain ⟨h1, h2, h3, h4, h5, h6⟩ := h.q
 have hq : ((P ^ M : Nat) : Int) = (P : Int) ^ M := Int.natCast_pow ..
 intro e
 induction e with
 | zero =>
  intro a ha
  refine Evt.step (fun k => codewrightref24_Span.l1.eq_2 ..) (Evt.bind h.order (Evt.neg (by omega) ?_))
  rw [wsucc (by omega), show a = P ^ M by omega]
  exact next
 | succ e ih =>
  intro a ha
  have ih' := ih (a + 1) (by omega)
  have e1 : letters (a + 1) = letters a ++ [(a : Int)] := by simp [letters, List.range_succ]
  rw [e1, List.flatMap_append, List.flatMap_cons, List.flatMap_nil, List.append_nil] at ih'
  have hlen : ((letters a).flatMap (fun a => S.map (fun w => lin (fadd P M mod) (fmul P M mod) a w r))).length ≤ 1050000 := by
   simp only [List.length_flatMap, List.length_map]
   have : (List.map (fun _ => S.length) (letters a)).sum = sm (letters a) (fun _ => S.length) := rfl
   rw [this, sm_const, letters_length]
   have : a * S.length ≤ 256 * 4096 := Nat.mul_le_mul (by omega) hS
   omega
  refine Evt.step (fun k => codewrightref24_Span.l1.eq_2 ..) (Evt.bind h.order (Evt.pos (by omega) ?_))
  have := gspan_l2 h n hn U S _ r hr a hS hlen r0 hw R ih' (by omega) S.length 0 (by omega)
  rw [List.take_zero, List.map_nil, List.append_nil] at this
  exact this
theorem gspan_small {N : Nat} {Q : Int} (hQ : 0 < Q) (h : ¬ (N : Int) > 4096 / Q) : (N : Int) * Q ≤ 4096 := by
 have h8 : (N : Int) * Q ≤ 4096 / Q * Q := Int.mul_le_mul_of_nonneg_right (Int.not_lt.1 h) (Int.le_of_lt hQ)
 exact Int.le_trans h8 (Int.ediv_mul_le 4096 (Int.ne_of_gt hQ))
theorem gspan_l0 (h : FN P M mod) (n : Nat) (hn : n ≤ 1000) (U : List (List Int)) (hU : U.length ≤ 100) : ∀ (e i : Nat) (S : List (List Int)), i + e = U.length → Lin (P ^ M) (fadd P M mod) (fmul P M mod) n S → S.length ≤ 4096 →
  ∃ R, Evt (fun k => codewrightref24_Span.l0 k n U 4096 S (i : Int) P M mod) R ∧ (R = [] ∨ (Lin (P ^ M) (fadd P M mod) (fmul P M mod) n R ∧ R.length ≤ 4096)) := by
 obtain ⟨h1, h2, h3, h4, h5, h6⟩ := h.q
 have hq : ((P ^ M : Nat) : Int) = (P : Int) ^ M := Int.natCast_pow ..
 intro e
 induction e with
 | zero =>
  intro i S hi hS hl
  exact ⟨_, Evt.step (fun k => codewrightref24_Span.l0.eq_2 ..) (Evt.neg (by omega) (Evt.now _)), .inr ⟨hS, hl⟩⟩
 | succ e ih =>
  intro i S hi hS hl
  obtain ⟨r, hrr⟩ : ∃ r, r = rowl ((P : Int) ^ M) n (U.getD i []) := ⟨_, rfl⟩
  have hrow := row_ev h n hn (U.getD i [])
  have hr : IsW (P ^ M) n r := by
   have := rowl_isW (q := P ^ M) (n := n) (by omega) (U.getD i [])
   rw [hq, ← hrr] at this
   exact this
  rw [← hrr] at hrow
  have hrl := hr.1
  have hhas := has_ev S r (by omega) (fun w hw => by rw [(hS.isw w hw).1, hrl]) (by omega) S.length 0 (by omega) (fun j hj => by omega)
  by_cases hm : r ∈ S
  ·
   obtain ⟨R, hR, hor⟩ := ih (i + 1) S (by omega) hS hl
   refine ⟨R, Evt.step (fun k => codewrightref24_Span.l0.eq_2 ..) (Evt.pos (by omega) (Evt.pos (by omega) ?_)), hor⟩
   rw [rdL1_nat, wsucc (by omega)]
   exact Evt.bind hrow (Evt.bind hhas (Evt.pos (decide_eq_true hm) hR))
  ·
   have hdv : 0 ≤ (4096 : Int) / (P : Int) ^ M ∧ (4096 : Int) / (P : Int) ^ M ≤ 4096 := ⟨Int.ediv_nonneg (by omega) (by omega), Int.ediv_le_self _ (by omega)⟩
   have hwv : wrap64 (Int.tdiv 4096 ((P : Int) ^ M)) = 4096 / (P : Int) ^ M := by rw [tdivp (by omega), w64 (by omega) (by omega)]
   have go : ∀ {R : List (List Int)}, Evt (fun k => if (S.length : Int) > wrap64 (Int.tdiv 4096 ((P : Int) ^ M)) then some ([] : List (List Int)) else codewrightref24_Span.l1 k n U 4096 S (i : Int) r [] 0 P M mod) R →
     Evt (fun k => codewrightref24_Span.l0 k n U 4096 S (i : Int) P M mod) R := by
    intro R hR
    refine Evt.step (fun k => codewrightref24_Span.l0.eq_2 ..) (Evt.pos (by omega) (Evt.pos (by omega) ?_))
    rw [rdL1_nat]
    exact Evt.bind hrow (Evt.bind hhas (Evt.neg (by rw [decide_eq_false hm]; simp) (Evt.bind h.order (Evt.neg (by omega) hR))))
   by_cases hbig : (S.length : Int) > 4096 / (P : Int) ^ M
   ·
    refine ⟨[], go (Evt.pos ?_ (Evt.now _)), .inl rfl⟩
    rw [hwv]; exact hbig
   ·
    have hst := Lin.step h.fld hS hr
    have hsl := spanStep_length (P ^ M) (fadd P M mod) (fmul P M mod) S r hm
    have hle : (spanStep (P ^ M) (fadd P M mod) (fmul P M mod) S r).length ≤ 4096 := by
     rw [hsl]
     have h7 := gspan_small (by omega) hbig
     rw [← hq, ← Int.natCast_mul] at h7
     rw [Nat.mul_comm]
     exact Int.ofNat_le.1 (show ((S.length * P ^ M : Nat) : Int) ≤ ((4096 : Nat) : Int) from h7)
    obtain ⟨R, hR, hor⟩ := ih (i + 1) _ (by omega) hst hle
    refine ⟨R, go (Evt.neg ?_ ?_), hor⟩
    ·
     rw [hwv]; exact hbig
    ·
     unfold spanStep at hR
     rw [if_neg hm] at hR
     exact gspan_l1 h n hn U S r hr hl i (by omega) hS.isw R hR (P ^ M) 0 (by omega)
theorem gspan_ev (h : FN P M mod) (n : Nat) (hn : n ≤ 1000) (U : List (List Int)) (hU : U.length ≤ 100) :
  ∃ R, Evt (fun k => codewrightref24_Span.f k P M mod n U 4096) R ∧ (R = [] ∨ (Lin (P ^ M) (fadd P M mod) (fmul P M mod) n R ∧ R.length ≤ 4096)) := by
 obtain ⟨R, hR, hor⟩ := gspan_l0 h n hn U hU U.length 0 [List.replicate n 0] (by omega) (Lin.start h.fld) (by simp)
 refine ⟨R, ?_, hor⟩
 unfold codewrightref24_Span.f
 refine Evt.pos (by omega) (Evt.pos (by omega) ?_)
 rw [Int.toNat_natCast]
 exact hR
end
/-- how many words of a list have weight d -/
def cntw (n : Nat) (W : List (List Int)) (d : Nat) : Nat := (W.filter (fun w => decide (dist w (List.replicate n 0) = d))).length
theorem weights_l1 (n : Nat) (hn : n ≤ 1000) (cnt : List Int) (c : Nat → Nat) (hc : ∀ d, d ≤ n → cnt.getD d 0 = (c d : Int)) (hc2 : ∀ d, d ≤ n → c d ≤ 1000000) (hl : cnt.length = n + 1) : ∀ (e i : Nat), i + e = n + 1 →
  Evt (fun k => codewrightref24_Weights.l1 k n cnt ((List.range i).map (fun d => enc (c d))) (i : Int)) ((List.range (n + 1)).map (fun d => enc (c d))) := by
 intro e
 induction e with
 | zero =>
  intro i hi
  rw [show i = n + 1 by omega]
  exact Evt.step (fun k => codewrightref24_Weights.l1.eq_2 ..) (Evt.neg (by omega) (Evt.now _))
 | succ e ih =>
  intro i hi
  have h2 := hc2 i (by omega)
  have ih' := ih (i + 1) (by omega)
  rw [List.range_succ, List.map_append] at ih'
  refine Evt.step (fun k => codewrightref24_Weights.l1.eq_2 ..) (Evt.pos (by omega) (Evt.pos (by omega) (Evt.pos (by omega) ?_)))
  rw [rd_nat, hc i (by omega), wu64n (by omega), wsucc (by omega)]
  refine Evt.bind (rof_ev _ (by omega)) (Evt.pos ?_ ih')
  simp; omega
theorem weights_l0 (n : Nat) (hn : n ≤ 1000) (W : List (List Int)) (hW : ∀ w ∈ W, w.length = n) (hWl : W.length ≤ 1000000) : ∀ (e i : Nat) (cnt : List Int), i + e = W.length → cnt.length = n + 1 → (∀ d, d ≤ n → cnt.getD d 0 = (cntw n (W.take i) d : Int)) →
  Evt (fun k => codewrightref24_Weights.l0 k n W cnt (List.replicate n 0) (i : Int)) ((List.range (n + 1)).map (fun d => enc (cntw n W d))) := by
 have hle : ∀ (V : List (List Int)) d, cntw n V d ≤ V.length := fun V d => List.length_filter_le ..
 intro e
 induction e with
 | zero =>
  intro i cnt hi hl hc
  rw [List.take_of_length_le (by omega)] at hc
  refine Evt.step (fun k => codewrightref24_Weights.l0.eq_2 ..) (Evt.neg (by omega) ?_)
  have := weights_l1 n hn cnt (cntw n W) hc (fun d _ => by have := hle W d; omega) hl (n + 1) 0 (by omega)
  exact this
 | succ e ih =>
  intro i cnt hi hl hc
  have hm : W.getD i [] ∈ W := by
   rw [List.getD_eq_getElem?_getD, List.getElem?_eq_getElem (by omega)]
   exact List.getElem_mem _
  have ht : W.take (i + 1) = W.take i ++ [W.getD i []] := by
   rw [List.take_add_one, List.getD_eq_getElem?_getD, List.getElem?_eq_getElem (by omega)]; rfl
  have hwl := hW _ hm
  have hdl := dist_le (W.getD i []) (List.replicate n 0)
  rw [hwl] at hdl
  have hcv := hc (dist (W.getD i []) (List.replicate n 0)) hdl
  have hb := hle (W.take i) (dist (W.getD i []) (List.replicate n 0))
  rw [List.length_take] at hb
  refine Evt.step (fun k => codewrightref24_Weights.l0.eq_2 ..) (Evt.pos (by omega) (Evt.pos (by omega) ?_))
  rw [rdL1_nat]
  refine Evt.bind (distance_ev _ _ (by rw [hwl]; simp) (by omega)) (Evt.pos (by omega) (Evt.pos (by omega) ?_))
  rw [rd_nat, hcv, wsucc (by omega), wsucc (by omega), Int.toNat_natCast]
  refine ih (i + 1) _ (by omega) (by rw [List.length_set]; exact hl) (fun d hd => ?_)
  rw [ht]
  unfold cntw
  rw [List.filter_append, List.length_append]
  by_cases hdd : dist (W.getD i []) (List.replicate n 0) = d
  ·
   rw [hdd, lset_self _ _ _ (by omega), List.filter_cons_of_pos (by simpa using hdd)]
   simp
  ·
   rw [lset_ne _ _ _ _ (fun e => hdd e), hc d hd, List.filter_cons_of_neg (by simpa using hdd)]
   simp [cntw]
theorem weights_ev (n : Nat) (hn : n ≤ 1000) (W : List (List Int)) (hW : ∀ w ∈ W, w.length = n) (hWl : W.length ≤ 1000000) :
  Evt (fun k => codewrightref24_Weights.f k n W) ((List.range (n + 1)).map (fun d => enc (cntw n W d))) := by
 unfold codewrightref24_Weights.f
 rw [wsucc (by omega)]
 refine Evt.pos (by omega) (Evt.pos (by omega) (Evt.pos (by omega) (Evt.pos (by omega) ?_)))
 rw [Int.toNat_natCast, Int.toNat_natCast]
 exact weights_l0 n hn W hW hWl W.length 0 _ (by omega) (by simp) (fun d _ => by rw [lzeros_getD]; simp [cntw])
theorem rdL_nat (l : List (List Int)) (i : Nat) : rd_L3 l (i : Int) = l.getD i [] := by unfold rd_L3; rw [Int.toNat_natCast]
theorem least_l0 (n : Nat) (hn : n ≤ 1000) (c : Nat → Nat) (hc2 : ∀ d, d ≤ n → c d ≤ 1000000) (d : Nat) (hdn : d ≤ n) (hd : c d ≠ 0) (hmin : ∀ i, 1 ≤ i → i < d → c i = 0) : ∀ (e i : Nat), i + e = d → 1 ≤ i →
  Evt (fun k => codewrightref24_Least.l0 k ((List.range (n + 1)).map (fun d => enc (c d))) (i : Int)) (d : Int) := by
 have hl : ((List.range (n + 1)).map (fun d => enc (c d))).length = n + 1 := by simp
 have hg : ∀ i, i ≤ n → ((List.range (n + 1)).map (fun d => enc (c d))).getD i [] = enc (c i) := fun i hi => by
  rw [List.getD_eq_getElem?_getD, List.getElem?_map, List.getElem?_range (by omega)]; rfl
 intro e
 induction e with
 | zero =>
  intro i hi h1
  rw [show i = d by omega]
  have l1 : (enc (c d)).length ≤ 1 := enc_length_le _ (by have := hc2 d hdn; omega)
  refine Evt.step (fun k => codewrightref24_Least.l0.eq_2 ..) (Evt.pos (by omega) (Evt.pos (by omega) ?_))
  rw [rdL_nat, hg d hdn]
  exact Evt.bind (rzero_ev (enc_is _) (by show (enc _).length ≤ _; omega)) (Evt.neg (by simpa using hd) (Evt.now _))
 | succ e ih =>
  intro i hi h1
  have l1 : (enc (c i)).length ≤ 1 := enc_length_le _ (by have := hc2 i (by omega); omega)
  refine Evt.step (fun k => codewrightref24_Least.l0.eq_2 ..) (Evt.pos (by omega) (Evt.pos (by omega) ?_))
  rw [rdL_nat, hg i (by omega), wsucc (by omega)]
  exact Evt.bind (rzero_ev (enc_is _) (by show (enc _).length ≤ _; omega)) (Evt.pos (by simpa using hmin i h1 (by omega)) (ih (i + 1) (by omega) (by omega)))
/-- the loop of bounds.Griesmer -/
theorem grs_l0 (q : Nat) (hq : 2 ≤ q) (hq2 : q ≤ 256) (K : Nat) (hK : K ≤ 64) : ∀ (e i d n : Nat), i + e = K → d ≤ 2000000 → n ≤ 2000000 * i →
  Evt (fun k => bounds_Griesmer.l0 k q d n K (i : Int)) (((n + grs q e d : Nat) : Int), 0) := by
 intro e
 induction e with
 | zero =>
  intro i d n hi hd hn
  exact Evt.step (fun k => bounds_Griesmer.l0.eq_2 ..) (Evt.neg (by omega) (Evt.now' rfl))
 | succ e ih =>
  intro i d n hi hd hn
  have h1 : (d + q - 1) / q ≤ d := by
   rw [Nat.div_le_iff_le_mul (by omega)]
   have : d * 2 ≤ d * q := Nat.mul_le_mul_left d hq
   by_cases hd0 : d = 0
   ·
    subst hd0; omega
   ·
    omega
  refine Evt.step (fun k => bounds_Griesmer.l0.eq_2 ..) (Evt.pos (by omega) (Evt.neg (by omega) ?_))
  have e1 : wrap64 (Int.tdiv (wrap64 (wrap64 ((d : Int) + q) - 1)) q) = (((d + q - 1) / q : Nat) : Int) := by
   rw [w64 (x := (d : Int) + q) (by omega) (by omega), w64 (x := (d : Int) + q - 1) (by omega) (by omega), show (d : Int) + q - 1 = ((d + q - 1 : Nat) : Int) by omega, tdivp (by omega), ← Int.natCast_ediv]
   generalize (d + q - 1) / q = D at h1
   exact w64 (by omega) (by omega)
  rw [e1, wadd (by omega), wsucc (by omega), show n + grs q (e + 1) d = n + d + grs q e ((d + q - 1) / q) by show n + (d + grs q e _) = _; omega]
  exact ih (i + 1) _ (n + d) (by omega) (by omega) (by omega)
theorem Griesmer_ev (q K d : Nat) (hq : 2 ≤ q) (hq2 : q ≤ 256) (hK : K ≤ 64) (hd : 1 ≤ d) (hd2 : d ≤ 1048576) : Evt (fun k => bounds_Griesmer.f k q K d) (((grs q K d : Nat) : Int), 0) := by
 unfold bounds_Griesmer.f
 refine Evt.neg (by omega) (Evt.neg (by omega) (Evt.neg (by omega) (Evt.neg (by omega) (Evt.neg (by omega) ?_))))
 rw [decide_eq_false (by omega)]
 refine Evt.step (fun k => bounds_Griesmer.j0.eq_2 ..) (Evt.neg (by simp) ?_)
 have := grs_l0 q hq hq2 K hK K 0 d 0 (by omega) (by omega) (by omega)
 rw [Nat.zero_add] at this
 exact this
end Go.Proofs.Ytpjpbhjpobdenaa.BoundsLinearC
/- No linear code is shorter than the number that the function bounds.Griesmer returns for its dimension and its least weight. Conditions: none, for every field description, every byte and list of rows. -/
namespace Go.Proofs.Ytpjpbhjpobdenaa.Pure
open Go.RowKit Go.Proofs.Ytpjpbhjpobdenaa.PBoundsLinear Go.Proofs.YtpjpbhjpobdenaaW.PrintWords Go.Proofs.YtpjpbhjpobdenaaW.PrintLast Go.Proofs.YtpjpbhjpobdenaaW.PrintMore Cw Go.Proofs.Ytpjpbhjpobdenaa.BoundsLinearC
section
variable {P M : Nat} {mod : List Int}
theorem linear_end (h : FN P M mod) (L : Nat) (hL : L ≤ 12) (R : List (List Int)) (hR : Lin (P ^ M) (fadd P M mod) (fmul P M mod) L R) (hRl : R.length ≤ 4096) (hR2 : 2 ≤ R.length) (K : Nat) (hK1 : 1 ≤ K) (hK : K ≤ 13) (hlow : (P ^ M) ^ (K - 1) < R.length) :
  Evt (fun k => (codewrightref24_Weights.f k L R).bind fun t262 => (codewrightref24_Least.f k t262).bind fun t265 => (codewrightref04_Order.f k P M mod).bind fun t266 => (bounds_Griesmer.f k t266 K t265).bind fun bt267 => if bt267.2 = 0 then (if bt267.1 ≥ t265 then some (decide (bt267.1 ≤ (L : Int))) else some false) else some false) true := by
 obtain ⟨h1, h2, h3, h4, h5, h6⟩ := h.q
 have hq : ((P ^ M : Nat) : Int) = (P : Int) ^ M := Int.natCast_pow ..
 have hWL : ∀ w ∈ R, w.length = L := fun w hw => (hR.isw w hw).1
 obtain ⟨c, c1, c2, c3⟩ := least_word hR (List.range L) (by omega)
 have hwd : ∀ x ∈ R, wt (List.range L) x = dist x (List.replicate L 0) := fun x hx => by
  have := wt_dist x
  rw [hWL x hx] at this
  exact this
 obtain ⟨d, hd⟩ : ∃ d, d = wt (List.range L) c := ⟨_, rfl⟩
 have hd0 : d ≠ 0 := by
  rw [hd, hwd c c1]
  exact fun e => c2 (dist_eq_zero (by rw [hWL c c1]; simp) e)
 have hdL : d ≤ L := by
  rw [hd, hwd c c1]
  have := dist_le c (List.replicate L 0)
  rw [hWL c c1] at this; exact this
 have hcd : cntw L R d ≠ 0 := by
  unfold cntw
  have : c ∈ R.filter (fun w => decide (dist w (List.replicate L 0) = d)) := List.mem_filter.2 ⟨c1, decide_eq_true (by rw [hd, hwd c c1])⟩
  have := List.length_pos_of_mem this
  omega
 have hmin : ∀ i, 1 ≤ i → i < d → cntw L R i = 0 := fun i i1 i2 => by
  unfold cntw
  rw [List.length_eq_zero_iff, List.filter_eq_nil_iff]
  intro x hx e
  have e := of_decide_eq_true e
  by_cases hx0 : x = List.replicate L 0
  ·
   rw [hx0, dist_self] at e; omega
  ·
   have := c3 x hx hx0
   rw [hwd x hx, ← hd] at this; omega
 have hcl : ∀ e, e ≤ L → cntw L R e ≤ 1000000 := fun e _ => by
  have : cntw L R e ≤ R.length := List.length_filter_le ..
  omega
 have hleast := least_l0 L (by omega) (cntw L R) hcl d hdL hcd hmin (d - 1) 1 (by omega) (by omega)
 have hgr := Griesmer_ev (P ^ M) K d (by omega) (by omega) (by omega) (by omega) (by omega)
 rw [hq] at hgr
 have hG := griesmer h.fld K d R (List.range L) (by omega) hR (fun i hi => List.mem_range.1 hi) (fun x hx hx0 => by rw [hd]; exact c3 x hx hx0) (.inr hlow)
 rw [List.length_range] at hG
 have hG2 : d ≤ grs (P ^ M) K d := by
  obtain ⟨K', rfl⟩ : ∃ K', K = K' + 1 := ⟨K - 1, by omega⟩
  exact Nat.le_add_right _ _
 refine Evt.bind (weights_ev L (by omega) R hWL (by omega)) (Evt.bind (by unfold codewrightref24_Least.f; exact hleast) (Evt.bind h.order (Evt.bind hgr (Evt.pos rfl (Evt.pos (by show ((grs (P ^ M) K d : Nat) : Int) ≥ (d : Int); omega) (Evt.now' ?_))))))
 exact decide_eq_true (by show ((grs (P ^ M) K d : Nat) : Int) ≤ (L : Int); omega)
theorem linear_l0 (h : FN P M mod) (L : Nat) (hL : L ≤ 12) (R : List (List Int)) (hR : Lin (P ^ M) (fadd P M mod) (fmul P M mod) L R) (hRl : R.length ≤ 4096) (hR2 : 2 ≤ R.length) : ∀ (e K s : Nat), K + e = 13 → s = (P ^ M) ^ K → s ≤ 2000000 → (1 ≤ K → (P ^ M) ^ (K - 1) < R.length) →
  Evt (fun k => codewrightlaw34_BoundsLinear.l0 k L R (K : Int) (s : Int) P M mod) true := by
 obtain ⟨h1, h2, h3, h4, h5, h6⟩ := h.q
 have hq : ((P ^ M : Nat) : Int) = (P : Int) ^ M := Int.natCast_pow ..
 have stop : ∀ (K s : Nat), K ≤ 13 → s = (P ^ M) ^ K → ¬ s < R.length → (1 ≤ K → (P ^ M) ^ (K - 1) < R.length) → Evt (fun k => codewrightlaw34_BoundsLinear.l0 k L R (K : Int) (s : Int) P M mod) true := by
  intro K s hK hs hlt hlow
  have hK1 : 1 ≤ K := by
   rcases Nat.eq_zero_or_pos K with h0 | h0
   ·
    subst h0; rw [Nat.pow_zero] at hs; omega
   ·
    exact h0
  exact Evt.step (fun k => codewrightlaw34_BoundsLinear.l0.eq_2 ..) (Evt.neg (by omega) (linear_end h L hL R hR hRl hR2 K hK1 hK (hlow hK1)))
 intro e
 induction e with
 | zero =>
  intro K s hK hs hs2 hlow
  refine stop K s (by omega) hs (fun hlt => ?_) hlow
  have h7 : 2 ^ 13 ≤ (P ^ M) ^ 13 := Nat.pow_le_pow_left (by omega) 13
  rw [show K = 13 by omega] at hs
  rw [← hs] at h7
  omega
 | succ e ih =>
  intro K s hK hs hs2 hlow
  by_cases hlt : s < R.length
  ·
   have h7 : s * P ^ M ≤ 4096 * 256 := Nat.mul_le_mul (by omega) (by omega)
   refine Evt.step (fun k => codewrightlaw34_BoundsLinear.l0.eq_2 ..) (Evt.pos (by omega) (Evt.bind h.order ?_))
   rw [← hq, ← Int.natCast_mul, wsucc (by omega), w64 (x := ((s * P ^ M : Nat) : Int)) (by omega) (by omega)]
   exact ih (K + 1) (s * P ^ M) (by omega) (by rw [hs, Nat.pow_succ]) (by omega) (fun _ => by rw [Nat.add_sub_cancel, ← hs]; exact hlt)
  ·
   exact stop K s (by omega) hs hlt hlow
theorem linear_j0 (h : FN P M mod) (L : Nat) (hL : L ≤ 12) (rows : List (List Int)) (hr : rows.length ≤ 12) : Evt (fun k => codewrightlaw34_BoundsLinear.j0 k rows L false P M mod) true := by
 obtain ⟨R, hR, hor⟩ := gspan_ev h L (by omega) rows (by omega)
 refine Evt.step (fun k => codewrightlaw34_BoundsLinear.j0.eq_2 ..) (Evt.neg (by simp) (Evt.bind hR ?_))
 by_cases h2 : (R.length : Int) < 2
 ·
  exact Evt.pos h2 (Evt.now _)
 ·
  refine Evt.neg h2 ?_
  rcases hor with hor | hor
  ·
   rw [hor] at h2; simp at h2
  ·
   exact linear_l0 h L hL R hor.1 hor.2 (by omega) 13 0 1 (by omega) (by simp) (by omega) (fun h => by omega)
end
theorem BoundsLinear (P M : Int) (mod : List Int) (n : Int) (rows : List (List Int)) (wn : (Lit.int .u8 n).wf = true) : ∃ k, codewrightlaw34_BoundsLinear.f k P M mod n rows = some true := by
 refine Evt.rounds ?_
 unfold codewrightlaw34_BoundsLinear.f
 have hn : 0 ≤ n ∧ n ≤ 255 := by simp [Lit.wf, IntKind.min, IntKind.max, IntKind.signed, IntKind.bits] at wn; omega
 obtain ⟨n, rfl⟩ := Int.eq_ofNat_of_zero_le hn.1
 have hL : wrap64 (Int.tmod (wrap64 (n : Int)) 12 + 1) = ((n % 12 + 1 : Nat) : Int) := by
  rw [w64 (x := (n : Int)) (by omega) (by omega), tmodp (by omega), w64 (by omega) (by omega)]; omega
 rw [hL]
 have yes : Evt (fun k => codewrightlaw34_BoundsLinear.j0 k rows ((n % 12 + 1 : Nat) : Int) true P M mod) true :=
  Evt.step (fun k => codewrightlaw34_BoundsLinear.j0.eq_2 ..) (Evt.pos rfl (Evt.now _))
 obtain ⟨e, he, hz⟩ := check_ev P M mod
 refine Evt.bind he ?_
 by_cases h0 : e = 0
 ·
  refine Evt.pos h0 ?_
  have hF := hz h0
  by_cases hr : (rows.length : Int) > 12
  ·
   rw [decide_eq_true hr]; exact yes
  ·
   rw [decide_eq_false hr]
   have h1 := hF.p2
   have h2 := hF.m1
   obtain ⟨P, rfl⟩ := Int.eq_ofNat_of_zero_le (by omega : 0 ≤ P)
   obtain ⟨M, rfl⟩ := Int.eq_ofNat_of_zero_le (by omega : 0 ≤ M)
   exact linear_j0 (P := P) (M := M) hF (n % 12 + 1) (by omega) rows (by omega)
 ·
  exact Evt.neg h0 yes
end Go.Proofs.Ytpjpbhjpobdenaa.Pure
