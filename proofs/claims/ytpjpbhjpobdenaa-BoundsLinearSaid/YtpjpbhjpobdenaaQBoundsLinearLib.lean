/- Integer polynomials as lists of coefficients, by their values. -/

namespace Cw
/-- the value at t of the polynomial with these coefficients, constant first -/
def ev : List Int → Int → Int
 | [], _ => 0
 | c :: cs, t => c + t * ev cs t
def padd : List Int → List Int → List Int
 | [], b => b
 | x :: a, [] => x :: a
 | x :: a, y :: b => (x + y) :: padd a b
def pscale (c : Int) (a : List Int) : List Int := a.map (fun x => c * x)
def pmul : List Int → List Int → List Int
 | [], _ => []
 | x :: a, b => padd (pscale x b) (0 :: pmul a b)
@[simp] theorem ev_nil (t : Int) : ev [] t = 0 := rfl
@[simp] theorem ev_cons (c : Int) (cs : List Int) (t : Int) : ev (c :: cs) t = c + t * ev cs t := rfl
theorem ev_padd (a b : List Int) (t : Int) : ev (padd a b) t = ev a t + ev b t := by
 induction a generalizing b with
 | nil => simp [padd]
 | cons x a ih =>
  cases b with
  | nil => simp [padd]
  | cons y b => simp only [padd, ev_cons, ih, Int.mul_add]; omega
theorem ev_pscale (c : Int) (a : List Int) (t : Int) : ev (pscale c a) t = c * ev a t := by
 induction a with
 | nil => simp [pscale]
 | cons x a ih =>
  have ih' : ev (List.map (fun x => c * x) a) t = c * ev a t := ih
  simp only [pscale, List.map_cons, ev_cons, ih', Int.mul_add]
  rw [← Int.mul_assoc, ← Int.mul_assoc, Int.mul_comm t c]
theorem ev_pmul (a b : List Int) (t : Int) : ev (pmul a b) t = ev a t * ev b t := by
 induction a with
 | nil => simp [pmul]
 | cons x a ih =>
  simp only [pmul, ev_padd, ev_pscale, ev_cons, ih, Int.zero_add, Int.add_mul, Int.mul_assoc]
theorem ev_append (a b : List Int) (t : Int) : ev (a ++ b) t = ev a t + t ^ a.length * ev b t := by
 induction a with
 | nil => simp
 | cons x a ih =>
  simp only [List.cons_append, ev_cons, ih, List.length_cons, Int.pow_succ, Int.mul_add]
  rw [← Int.mul_assoc, Int.mul_comm t (t ^ a.length)]; omega
theorem ev_replicate_zero (n : Nat) (t : Int) : ev (List.replicate n 0) t = 0 := by
 induction n with
 | zero => rfl
 | succ n ih => simp [List.replicate_succ, ih]
theorem ev_zeros (a : List Int) (h : ∀ c ∈ a, c = 0) (t : Int) : ev a t = 0 := by
 induction a with
 | nil => rfl
 | cons x a ih =>
  rw [ev_cons, h x (by simp), ih (fun c hc => h c (by simp [hc]))]; simp
theorem ev_large_zero (a : List Int) : ∀ N : Int, (∀ t : Int, N ≤ t → ev a t = 0) → ∀ c ∈ a, c = 0 := by
 induction a with
 | nil => intro N _ c hc; simp at hc
 | cons x a ih =>
  intro N h
  have hx : x = 0 := by
   have h1 := h (max N 0 + x.natAbs + 1) (by omega)
   rw [ev_cons] at h1
   have hd : (max N 0 + x.natAbs + 1) ∣ x := ⟨- ev a (max N 0 + x.natAbs + 1), by rw [Int.mul_neg]; omega⟩
   by_cases hx : x = 0
   ·
    exact hx
   ·
    have hp : 0 < x.natAbs := by omega
    have h2 : (max N 0 + x.natAbs + 1).natAbs ∣ x.natAbs := Int.natAbs_dvd_natAbs.2 hd
    have := Nat.le_of_dvd hp h2
    omega
  have ha := ih (max N 1) (by
   intro t ht
   have h1 := h t (by omega)
   rw [ev_cons, hx, Int.zero_add] at h1
   rcases Int.mul_eq_zero.1 h1 with h2 | h2
   ·
    omega
   ·
    exact h2)
  intro c hc
  rcases List.mem_cons.1 hc with h1 | h1
  ·
   rw [h1, hx]
  ·
   exact ha c h1
theorem padd_length (a b : List Int) : (padd a b).length = max a.length b.length := by
 induction a generalizing b with
 | nil => simp [padd]
 | cons x a ih =>
  cases b with
  | nil => simp [padd]
  | cons y b => simp only [padd, List.length_cons, ih]; omega
theorem pscale_length (c : Int) (a : List Int) : (pscale c a).length = a.length := by simp [pscale]
theorem pmul_length (a b : List Int) (hb : b ≠ []) : (pmul a b).length ≤ a.length + b.length - 1 := by
 have hb' : 0 < b.length := List.length_pos_iff.2 hb
 induction a with
 | nil => simp [pmul]
 | cons x a ih =>
  simp only [pmul, padd_length, pscale_length, List.length_cons]
  omega
theorem padd_getD (a b : List Int) (i : Nat) : (padd a b).getD i 0 = a.getD i 0 + b.getD i 0 := by
 induction a generalizing b i with
 | nil => simp [padd]
 | cons x a ih =>
  cases b with
  | nil => simp [padd]
  | cons y b =>
   cases i with
   | zero => simp [padd]
   | succ i => simpa [padd] using ih b i
theorem pscale_getD (c : Int) (a : List Int) (i : Nat) : (pscale c a).getD i 0 = c * a.getD i 0 := by
 induction a generalizing i with
 | nil => simp [pscale]
 | cons x a ih =>
  cases i with
  | zero => simp [pscale]
  | succ i => simpa [pscale] using ih i
/-- polynomials with the same values have the same coefficients -/
theorem coef_ext (a b : List Int) (h : ∀ t, ev a t = ev b t) (i : Nat) : a.getD i 0 = b.getD i 0 := by
 have h1 := ev_large_zero (padd a (pscale (-1) b)) 0 (by
  intro t _; rw [ev_padd, ev_pscale, h t]; omega)
 have h2 : (padd a (pscale (-1) b)).getD i 0 = 0 := by
  by_cases hi : i < (padd a (pscale (-1) b)).length
  ·
   rw [List.getD_eq_getElem?_getD, List.getElem?_eq_getElem hi]
   exact h1 _ (List.getElem_mem hi)
  ·
   rw [List.getD_eq_getElem?_getD, List.getElem?_eq_none (by omega)]; rfl
 rw [padd_getD, pscale_getD] at h2
 omega
/-- a and b are congruent modulo p and the monic polynomial with the low coefficients low -/
def Cong (p : Int) (low : List Int) (a b : List Int) : Prop :=
 ∃ h u : List Int, ∀ t, ev a t = ev b t + ev (low ++ [1]) t * ev h t + p * ev u t
theorem Cong.refl (p : Int) (low a : List Int) : Cong p low a a := ⟨[], [], fun t => by simp⟩
theorem Cong.of_ev {p : Int} {low a b : List Int} (h : ∀ t, ev a t = ev b t) : Cong p low a b :=
 ⟨[], [], fun t => by simp [h t]⟩
theorem Cong.symm {p : Int} {low a b : List Int} (h : Cong p low a b) : Cong p low b a := by
 obtain ⟨x, u, e⟩ := h
 refine ⟨pscale (-1) x, pscale (-1) u, fun t => ?_⟩
 rw [e t, ev_pscale, ev_pscale, Int.mul_left_comm, Int.mul_left_comm p]; omega
theorem Cong.trans {p : Int} {low a b c : List Int} (h : Cong p low a b) (k : Cong p low b c) : Cong p low a c := by
 obtain ⟨x, u, e⟩ := h
 obtain ⟨y, v, f⟩ := k
 refine ⟨padd x y, padd u v, fun t => ?_⟩
 rw [e t, f t, ev_padd, ev_padd, Int.mul_add, Int.mul_add]; omega
theorem Cong.add {p : Int} {low a b c d : List Int} (h : Cong p low a b) (k : Cong p low c d) : Cong p low (padd a c) (padd b d) := by
 obtain ⟨x, u, e⟩ := h
 obtain ⟨y, v, f⟩ := k
 refine ⟨padd x y, padd u v, fun t => ?_⟩
 rw [ev_padd, ev_padd, e t, f t, ev_padd, ev_padd, Int.mul_add, Int.mul_add]; omega
theorem Cong.mul_left {p : Int} {low a b : List Int} (c : List Int) (h : Cong p low a b) : Cong p low (pmul c a) (pmul c b) := by
 obtain ⟨x, u, e⟩ := h
 refine ⟨pmul c x, pmul c u, fun t => ?_⟩
 rw [ev_pmul, ev_pmul, e t, ev_pmul, ev_pmul, Int.mul_add, Int.mul_add, Int.mul_left_comm, Int.mul_left_comm p]
theorem Cong.mul_comm (p : Int) (low a b : List Int) : Cong p low (pmul a b) (pmul b a) :=
 Cong.of_ev fun t => by rw [ev_pmul, ev_pmul, Int.mul_comm]
theorem Cong.mul {p : Int} {low a b c d : List Int} (h : Cong p low a b) (k : Cong p low c d) : Cong p low (pmul a c) (pmul b d) :=
 ((k.mul_left a).trans (Cong.mul_comm ..)).trans ((h.mul_left d).trans (Cong.mul_comm ..))
/-- coefficientwise congruence modulo p -/
theorem Cong.of_mod {p : Int} {low a b : List Int} (h : ∀ i, p ∣ a.getD i 0 - b.getD i 0) : Cong p low a b := by
 suffices H : ∀ a b : List Int, (∀ i, p ∣ a.getD i 0 - b.getD i 0) → ∃ u : List Int, ∀ t, ev a t = ev b t + p * ev u t by
  obtain ⟨u, e⟩ := H a b h
  exact ⟨[], u, fun t => by rw [e t]; simp⟩
 intro a
 induction a with
 | nil =>
  intro b
  induction b with
  | nil => intro _; exact ⟨[], fun t => by simp⟩
  | cons y b ih =>
   intro h
   obtain ⟨u, e⟩ := ih (fun i => by simpa using h (i + 1))
   obtain ⟨k, hk⟩ := h 0
   refine ⟨k :: u, fun t => ?_⟩
   have := e t
   simp only [ev_nil, ev_cons, List.getD_cons_zero, List.getD_nil, Int.mul_add] at *
   rw [Int.mul_left_comm p t, ← Int.sub_eq_zero.2 this]
   have h3 : t * (0 - (ev b t + p * ev u t)) = -(t * ev b t) - t * (p * ev u t) := by
    rw [Int.mul_sub, Int.mul_add]; omega
   have h4 : t * (0 - (ev b t + p * ev u t)) = 0 := by rw [← this]; simp
   omega
 | cons x a ih =>
  intro b h
  cases b with
  | nil =>
   obtain ⟨u, e⟩ := ih [] (fun i => by simpa using h (i + 1))
   obtain ⟨k, hk⟩ := h 0
   refine ⟨k :: u, fun t => ?_⟩
   have h1 := e t
   simp only [ev_nil, ev_cons, List.getD_cons_zero, List.getD_nil, Int.mul_add, Int.zero_add] at *
   rw [h1, Int.mul_left_comm p t]; omega
  | cons y b =>
   obtain ⟨u, e⟩ := ih b (fun i => by simpa using h (i + 1))
   obtain ⟨k, hk⟩ := h 0
   refine ⟨k :: u, fun t => ?_⟩
   have h1 := e t
   simp only [ev_cons, List.getD_cons_zero, Int.mul_add] at *
   rw [h1, Int.mul_left_comm p t, Int.mul_add]; omega
theorem getD_append_left' (a b : List Int) (i : Nat) (h : i < a.length) : (a ++ b).getD i 0 = a.getD i 0 := by
 rw [List.getD_eq_getElem?_getD, List.getElem?_append_left h, ← List.getD_eq_getElem?_getD]
theorem getD_append_right' (a b : List Int) (i : Nat) (h : a.length ≤ i) : (a ++ b).getD i 0 = b.getD (i - a.length) 0 := by
 rw [List.getD_eq_getElem?_getD, List.getElem?_append_right h, ← List.getD_eq_getElem?_getD]
theorem getD_none' (a : List Int) (i : Nat) (h : a.length ≤ i) : a.getD i 0 = 0 := by
 rw [List.getD_eq_getElem?_getD, List.getElem?_eq_none h]; rfl
theorem ev_monic (low h : List Int) (t : Int) : ev (low ++ [1]) t * ev h t = ev (pmul low h) t + ev (List.replicate low.length 0 ++ h) t := by
 rw [ev_append, ev_pmul, ev_append, ev_replicate_zero, List.length_replicate]; simp [Int.add_mul]
/-- a multiple of a monic polynomial that is, modulo p, of lower degree, is 0 modulo p -/
theorem monic_multiple (p : Int) (low : List Int) : ∀ (n : Nat) (h u r : List Int), h.length = n → r.length ≤ low.length →
  (∀ t, ev r t = ev (low ++ [1]) t * ev h t + p * ev u t) → ∃ v : List Int, ∀ t, ev r t = p * ev v t := by
 intro n
 induction n with
 | zero =>
  intro h u r hn _ e
  rw [List.length_eq_zero_iff.1 hn] at e
  exact ⟨u, fun t => by rw [e t]; simp⟩
 | succ n ih =>
  intro h u r hn hr e
  obtain ⟨h0, c, rfl⟩ : ∃ h0 c, h = h0 ++ [c] := ⟨h.dropLast, h.getLast (by intro h'; simp [h'] at hn), (List.dropLast_concat_getLast _).symm⟩
  have hl : h0.length = n := by simpa using hn
  have h1 := coef_ext r (padd (padd (pmul low (h0 ++ [c])) (List.replicate low.length 0 ++ (h0 ++ [c]))) (pscale p u))
   (fun t => by rw [ev_padd, ev_padd, ev_pscale, ← ev_monic, e t]) (low.length + n)
  rw [padd_getD, padd_getD, pscale_getD, getD_none' r _ (by omega), getD_none' (pmul low (h0 ++ [c])) _ (by
    have := pmul_length low (h0 ++ [c]) (by simp); simp at this; omega),
   getD_append_right' _ _ _ (by simp), List.length_replicate, show low.length + n - low.length = n by omega, getD_append_right' _ _ _ (by omega), hl] at h1
  simp only [Nat.sub_self, List.getD_cons_zero, Int.zero_add] at h1
  have hc : c = p * (-(u.getD (low.length + n) 0)) := by rw [Int.mul_neg]; omega
  obtain ⟨v, hv⟩ : ∃ k, c = p * k := ⟨_, hc⟩
  apply ih h0 (padd u (pmul (low ++ [1]) (List.replicate n 0 ++ [v]))) r hl hr
  intro t
  rw [e t, ev_append h0, ev_padd, ev_pmul, ev_append (List.replicate n 0), ev_replicate_zero, List.length_replicate, hl, hv]
  simp only [ev_cons, ev_nil, Int.mul_zero, Int.add_zero, Int.zero_add, Int.mul_add]
  rw [Int.mul_left_comm (t ^ n) p, Int.mul_left_comm _ p]; omega
/-- reduced lists: so many entries, each from 0 to p-1 -/
def Red (p : Int) (M : Nat) (a : List Int) : Prop := a.length = M ∧ ∀ c ∈ a, 0 ≤ c ∧ c < p
theorem Red.getD {p : Int} {M : Nat} {a : List Int} (h : Red p M a) (hp : 0 < p) (i : Nat) : 0 ≤ a.getD i 0 ∧ a.getD i 0 < p := by
 by_cases hi : i < a.length
 ·
  rw [List.getD_eq_getElem?_getD, List.getElem?_eq_getElem hi]
  exact h.2 _ (List.getElem_mem hi)
 ·
  rw [getD_none' a i (by omega)]; omega
theorem small_eq {p x y : Int} (hx : 0 ≤ x ∧ x < p) (hy : 0 ≤ y ∧ y < p) (h : p ∣ x - y) : x = y := by
 obtain ⟨k, hk⟩ := h
 have h1 : k = 0 := by
  by_cases h0 : k = 0
  ·
   exact h0
  ·
   rcases Int.lt_or_gt_of_ne h0 with h2 | h2
   ·
    have : p * k ≤ p * (-1) := Int.mul_le_mul_of_nonneg_left (by omega) (by omega)
    omega
   ·
    have : p * 1 ≤ p * k := Int.mul_le_mul_of_nonneg_left (by omega) (by omega)
    omega
 rw [h1] at hk; omega
theorem ext_getD {a b : List Int} (hl : a.length = b.length) (h : ∀ i, i < a.length → a.getD i 0 = b.getD i 0) : a = b := by
 apply List.ext_getElem hl
 intro i h1 h2
 have := h i h1
 rw [List.getD_eq_getElem?_getD, List.getD_eq_getElem?_getD, List.getElem?_eq_getElem h1, List.getElem?_eq_getElem h2] at this
 exact this
/-- congruent reduced lists are equal -/
theorem Cong.eq {p : Int} {low a b : List Int} (hp : 0 < p) (ha : Red p low.length a) (hb : Red p low.length b) (h : Cong p low a b) : a = b := by
 obtain ⟨x, u, e⟩ := h
 obtain ⟨v, hv⟩ := monic_multiple p low x.length x u (padd a (pscale (-1) b)) rfl (by rw [padd_length, pscale_length, ha.1, hb.1]; omega) (fun t => by
  rw [ev_padd, ev_pscale, e t]; omega)
 refine ext_getD (ha.1.trans hb.1.symm) fun i _ => small_eq (ha.getD hp i) (hb.getD hp i) ?_
 have h1 := coef_ext (padd a (pscale (-1) b)) (pscale p v) (fun t => by rw [hv t, ev_pscale]) i
 rw [padd_getD, pscale_getD, pscale_getD] at h1
 exact ⟨v.getD i 0, by omega⟩
end Cw
/- Lists of limbs in base 2^32, and the numbers that they stand for. -/
namespace Cw
theorem ev_set (B : Int) (xs : List Int) : ∀ (i : Nat) (v : Int), i < xs.length → ev (xs.set i v) B = ev xs B + (v - xs.getD i 0) * B ^ i := by
 induction xs with
 | nil => intro i v h; simp at h
 | cons x xs ih =>
  intro i v h
  cases i with
  | zero => simp; omega
  | succ i =>
   have := ih i v (by simpa using h)
   simp only [List.set_cons_succ, ev_cons, this, List.getD_cons_succ, Int.pow_succ]
   grind
theorem ev_take_succ (B : Int) (xs : List Int) : ∀ (i : Nat), i < xs.length → ev (xs.take (i + 1)) B = ev (xs.take i) B + xs.getD i 0 * B ^ i := by
 induction xs with
 | nil => intro i h; simp at h
 | cons x xs ih =>
  intro i h
  cases i with
  | zero => simp
  | succ i =>
   have := ih i (by simpa using h)
   simp only [List.take_succ_cons, ev_cons, this, List.getD_cons_succ, Int.pow_succ]
   grind
theorem ev_take_succ' (B : Int) (xs : List Int) (i : Nat) : ev (xs.take (i + 1)) B = ev (xs.take i) B + xs.getD i 0 * B ^ i := by
 by_cases h : i < xs.length
 ·
  exact ev_take_succ B xs i h
 ·
  rw [List.take_of_length_le (by omega), List.take_of_length_le (by omega), getD_none' xs i (by omega)]; simp
/-- i limbs of a and b are added; c is carried -/
def PlusInv (a b out : List Int) (c : Int) (i : Nat) : Prop :=
 ev out 4294967296 + c * 4294967296 ^ i = ev (a.take i) 4294967296 + ev (b.take i) 4294967296
theorem PlusInv.step {a b out : List Int} {c : Int} {i : Nat} (h : PlusInv a b out c i) (hi : i < out.length) (hz : out.getD i 0 = 0) :
  PlusInv a b (out.set i ((a.getD i 0 + c + b.getD i 0) % 4294967296)) ((a.getD i 0 + c + b.getD i 0) / 4294967296) (i + 1) := by
 unfold PlusInv at *
 rw [ev_set _ _ _ _ hi, hz, ev_take_succ', ev_take_succ', Int.pow_succ]
 have e1 := Int.emod_add_mul_ediv (a.getD i 0 + c + b.getD i 0) 4294967296
 generalize (4294967296 : Int) ^ i = P at *
 generalize ev out 4294967296 = E at *
 generalize (a.getD i 0 + c + b.getD i 0) % 4294967296 = r at *
 generalize (a.getD i 0 + c + b.getD i 0) / 4294967296 = q at *
 have e2 : r = a.getD i 0 + c + b.getD i 0 - 4294967296 * q := by omega
 rw [e2]
 grind
theorem PlusInv.start (a b : List Int) (n : Nat) : PlusInv a b (List.replicate n 0) 0 0 := by
 unfold PlusInv; rw [ev_replicate_zero]; simp
/-- a.take i is multiplied, and a[i] with j limbs of b; c is carried -/
def TimesInv (a b out : List Int) (c : Int) (i j : Nat) : Prop :=
 ev out 4294967296 + c * 4294967296 ^ (i + j) = ev (a.take i) 4294967296 * ev b 4294967296 + a.getD i 0 * ev (b.take j) 4294967296 * 4294967296 ^ i
theorem TimesInv.step {a b out : List Int} {c : Int} {i j : Nat} (h : TimesInv a b out c i j) (hi : i + j < out.length) :
  TimesInv a b (out.set (i + j) ((a.getD i 0 * b.getD j 0 + out.getD (i + j) 0 + c) % 4294967296)) ((a.getD i 0 * b.getD j 0 + out.getD (i + j) 0 + c) / 4294967296) i (j + 1) := by
 unfold TimesInv at *
 rw [ev_set _ _ _ _ hi, ev_take_succ' _ b, ← Nat.add_assoc, Int.pow_succ]
 have e1 := Int.emod_add_mul_ediv (a.getD i 0 * b.getD j 0 + out.getD (i + j) 0 + c) 4294967296
 generalize (a.getD i 0 * b.getD j 0 + out.getD (i + j) 0 + c) % 4294967296 = r at *
 generalize (a.getD i 0 * b.getD j 0 + out.getD (i + j) 0 + c) / 4294967296 = q at *
 rw [Int.pow_add] at *
 generalize (4294967296 : Int) ^ i = P at *
 generalize (4294967296 : Int) ^ j = Q at *
 generalize ev out 4294967296 = E at *
 generalize ev (b.take j) 4294967296 = F at *
 generalize ev (a.take i) 4294967296 * ev b 4294967296 = G at *
 grind
theorem TimesInv.next {a b out : List Int} {c : Int} {i : Nat} (h : TimesInv a b out c i b.length) (hi : i + b.length < out.length) (hz : out.getD (i + b.length) 0 = 0) :
  TimesInv a b (out.set (i + b.length) c) 0 (i + 1) 0 := by
 unfold TimesInv at *
 rw [ev_set _ _ _ _ hi, hz, ev_take_succ' _ a]
 rw [List.take_length] at h
 simp only [List.take_zero, ev_nil, Int.mul_zero, Int.zero_mul, Int.add_zero, Int.add_mul, Int.sub_zero]
 rw [h, Int.mul_right_comm]
theorem TimesInv.start (a b : List Int) (n : Nat) : TimesInv a b (List.replicate n 0) 0 0 0 := by
 unfold TimesInv; rw [ev_replicate_zero]; simp
/-- a is divided by d from the top down to index i; r is the rest -/
def DigInv (a : List Int) (d : Int) (out : List Int) (r : Int) (i : Nat) : Prop :=
 ev out 4294967296 * d + r * 4294967296 ^ i + ev (a.take i) 4294967296 = ev a 4294967296
theorem DigInv.step {a out : List Int} {d r : Int} {i : Nat} (h : DigInv a d out r (i + 1)) (hi : i < out.length) (hz : out.getD i 0 = 0) :
  DigInv a d (out.set i ((r * 4294967296 + a.getD i 0) / d)) ((r * 4294967296 + a.getD i 0) % d) i := by
 unfold DigInv at *
 rw [ev_set _ _ _ _ hi, hz]
 rw [ev_take_succ', Int.pow_succ] at h
 have e1 := Int.emod_add_mul_ediv (r * 4294967296 + a.getD i 0) d
 generalize (r * 4294967296 + a.getD i 0) % d = r' at *
 generalize (r * 4294967296 + a.getD i 0) / d = q at *
 generalize (4294967296 : Int) ^ i = P at *
 rw [← h]
 grind
theorem DigInv.start (a : List Int) (d : Int) (n : Nat) : DigInv a d (List.replicate n 0) 0 a.length := by
 unfold DigInv; rw [ev_replicate_zero]; simp
/-- limbs: each from 0 to 2^32 - 1 -/
def Lim (xs : List Int) : Prop := ∀ c ∈ xs, 0 ≤ c ∧ c < 4294967296
/-- xs are limbs that stand for n -/
def Is (xs : List Int) (n : Nat) : Prop := Lim xs ∧ ev xs 4294967296 = (n : Int)
theorem Lim.nil : Lim [] := fun c h => by simp at h
theorem Lim.getD {xs : List Int} (h : Lim xs) (i : Nat) : 0 ≤ xs.getD i 0 ∧ xs.getD i 0 < 4294967296 := by
 by_cases hi : i < xs.length
 ·
  rw [List.getD_eq_getElem?_getD, List.getElem?_eq_getElem hi]
  exact h _ (List.getElem_mem hi)
 ·
  rw [getD_none' xs i (by omega)]; omega
theorem Lim.set {xs : List Int} (h : Lim xs) (i : Nat) {v : Int} (h0 : 0 ≤ v) (h1 : v < 4294967296) : Lim (xs.set i v) := by
 intro c hc
 rcases List.mem_or_eq_of_mem_set hc with h' | h'
 ·
  exact h c h'
 ·
  rw [h']; exact ⟨h0, h1⟩
theorem Lim.cons {x : Int} {xs : List Int} (h0 : 0 ≤ x) (h1 : x < 4294967296) (h : Lim xs) : Lim (x :: xs) := by
 intro c hc
 rcases List.mem_cons.1 hc with h' | h'
 ·
  rw [h']; exact ⟨h0, h1⟩
 ·
  exact h c h'
theorem Lim.tail {x : Int} {xs : List Int} (h : Lim (x :: xs)) : Lim xs := fun c hc => h c (by simp [hc])
theorem Lim.head {x : Int} {xs : List Int} (h : Lim (x :: xs)) : 0 ≤ x ∧ x < 4294967296 := h x (by simp)
theorem Lim.append {a b : List Int} (h : Lim a) (k : Lim b) : Lim (a ++ b) := by
 intro c hc
 rcases List.mem_append.1 hc with h' | h'
 ·
  exact h c h'
 ·
  exact k c h'
theorem Lim.take {xs : List Int} (h : Lim xs) (n : Nat) : Lim (xs.take n) := fun c hc => h c (List.mem_of_mem_take hc)
theorem Lim.drop {xs : List Int} (h : Lim xs) (n : Nat) : Lim (xs.drop n) := fun c hc => h c (List.mem_of_mem_drop hc)
theorem Lim.nonneg {xs : List Int} (h : Lim xs) : 0 ≤ ev xs 4294967296 := by
 induction xs with
 | nil => simp
 | cons x xs ih => rw [ev_cons]; have := ih h.tail; have := h.head; omega
theorem Lim.is {xs : List Int} (h : Lim xs) : Is xs (ev xs 4294967296).toNat := ⟨h, by have := h.nonneg; omega⟩
theorem Is.nil : Is [] 0 := ⟨Lim.nil, rfl⟩
theorem Is.cons {c : Int} {xs : List Int} {n : Nat} (h0 : 0 ≤ c) (h1 : c < 4294967296) (h : Is xs n) : Is (c :: xs) (c.toNat + 4294967296 * n) :=
 ⟨Lim.cons h0 h1 h.1, by rw [ev_cons, h.2]; omega⟩
/-- the limbs of n, without zeros at the end -/
def enc (n : Nat) : List Int :=
 if n = 0 then [] else ((n % 4294967296 : Nat) : Int) :: enc (n / 4294967296)
termination_by n
decreasing_by omega
theorem enc_zero : enc 0 = [] := by rw [enc]; rfl
theorem enc_pos {n : Nat} (h : n ≠ 0) : enc n = ((n % 4294967296 : Nat) : Int) :: enc (n / 4294967296) := by rw [enc, if_neg h]
theorem enc_is (n : Nat) : Is (enc n) n := by
 induction n using Nat.strongRecOn with
 | ind n ih =>
  by_cases h : n = 0
  ·
   subst h; rw [enc_zero]; exact Is.nil
  ·
   rw [enc_pos h]
   have := Is.cons (c := ((n % 4294967296 : Nat) : Int)) (by omega) (by omega) (ih (n / 4294967296) (by omega))
   have e : ((n % 4294967296 : Nat) : Int).toNat + 4294967296 * (n / 4294967296) = n := by omega
   rwa [e] at this
theorem enc_ne {n : Nat} (h : n ≠ 0) : enc n ≠ [] := by rw [enc_pos h]; simp
/-- limbs that do not end with 0 are the limbs of their number -/
theorem eq_enc {xs : List Int} : ∀ {n : Nat}, Is xs n → xs.getLast? ≠ some 0 → xs = enc n := by
 induction xs with
 | nil =>
  intro n h _
  have h1 : (0 : Int) = n := h.2
  have : n = 0 := by omega
  rw [this, enc_zero]
 | cons c xs ih =>
  intro n h hl
  have hx := h.1.tail.is
  have hc := h.1.head
  have hn := h.2
  rw [ev_cons, hx.2] at hn
  have e2 : xs.getLast? ≠ some 0 := by
   intro h'
   rcases List.eq_nil_or_concat xs with h1 | ⟨l, x, h1⟩
   ·
    rw [h1] at h'; simp at h'
   ·
    rw [h1] at h' hl
    rw [List.concat_eq_append] at h' hl
    have h4 : ((c :: l) ++ [x]).getLast? = some x := List.getLast?_concat
    have h5 : (l ++ [x]).getLast? = some x := by simp
    rw [← List.cons_append, h4] at hl; rw [h5] at h'
    exact hl h'
  have ih' := ih hx e2
  generalize (ev xs 4294967296).toNat = m at *
  have h3 : n ≠ 0 := by
   intro h0
   have hm : m = 0 := by omega
   rw [hm, enc_zero] at ih'
   rw [ih'] at hl
   have : c = 0 := by omega
   rw [this] at hl; simp at hl
  rw [enc_pos h3, show n % 4294967296 = c.toNat by omega, show n / 4294967296 = m by omega, ← ih']
  have : ((c.toNat : Nat) : Int) = c := by omega
  rw [this]
theorem enc_length_le (L : Nat) : ∀ {n : Nat}, n < 4294967296 ^ L → (enc n).length ≤ L := by
  induction L with
  | zero => intro n h; have : n = 0 := by simpa using h
            rw [this, enc_zero]; simp
  | succ L ih =>
    intro n h
    by_cases h0 : n = 0
    · rw [h0, enc_zero]; simp
    · rw [enc_pos h0, List.length_cons]
      have := ih (n := n / 4294967296) (by rw [Nat.pow_succ] at h; exact Nat.div_lt_of_lt_mul (by rw [Nat.mul_comm]; exact h))
      omega
theorem ev_drop_zeros (B : Int) (xs : List Int) (m : Nat) (h : ∀ i, m ≤ i → i < xs.length → xs.getD i 0 = 0) : ev (xs.take m) B = ev xs B := by
 have e : xs = xs.take m ++ xs.drop m := (List.take_append_drop m xs).symm
 rw [show ev xs B = ev (xs.take m ++ xs.drop m) B by rw [← e], ev_append, ev_zeros (xs.drop m)]
 ·
  simp
 ·
  intro c hc
  obtain ⟨i, hi, rfl⟩ := List.mem_iff_getElem.1 hc
  rw [List.length_drop] at hi
  have := h (m + i) (by omega) (by omega)
  rw [List.getD_eq_getElem?_getD, List.getElem?_eq_getElem (by omega)] at this
  simpa using this
theorem Is.take {xs : List Int} {n : Nat} (hx : Is xs n) (m : Nat) (h : ∀ i, m ≤ i → i < xs.length → xs.getD i 0 = 0) : Is (xs.take m) n :=
 ⟨hx.1.take m, by rw [ev_drop_zeros _ xs m h, hx.2]⟩
/-- what is left when the zeros at the end are cut off -/
theorem take_eq_enc {xs : List Int} {n : Nat} (hx : Is xs n) (m : Nat) (hm : m ≤ xs.length) (h : ∀ i, m ≤ i → i < xs.length → xs.getD i 0 = 0)
  (h0 : m = 0 ∨ xs.getD (m - 1) 0 ≠ 0) : xs.take m = enc n := by
 refine eq_enc (hx.take m h) ?_
 rcases h0 with h0 | h0
 ·
  rw [h0]; simp
 ·
  intro h1
  rw [List.getLast?_eq_getElem?] at h1
  have hl : (xs.take m).length = m := by rw [List.length_take]; omega
  rw [hl] at h1
  by_cases hz : m = 0
  ·
   rw [hz] at h1; simp at h1
  ·
   rw [List.getElem?_take, if_pos (by omega)] at h1
   exact h0 (by rw [List.getD_eq_getElem?_getD, h1]; rfl)
theorem lset_self (xs : List Int) (i : Nat) (v : Int) (h : i < xs.length) : (xs.set i v).getD i 0 = v := by
 rw [List.getD_eq_getElem?_getD, List.getElem?_set_self h]; rfl
theorem lset_ne (xs : List Int) (i j : Nat) (v : Int) (h : i ≠ j) : (xs.set i v).getD j 0 = xs.getD j 0 := by
 rw [List.getD_eq_getElem?_getD, List.getElem?_set_ne h, ← List.getD_eq_getElem?_getD]
theorem lzeros_getD (n i : Nat) : (List.replicate n (0 : Int)).getD i 0 = 0 := by
 rw [List.getD_eq_getElem?_getD, List.getElem?_replicate]; split <;> rfl
/-- the limbs from i on are alike -/
def TopEq (xs ys : List Int) (i : Nat) : Prop := ev xs 4294967296 - ev (xs.take i) 4294967296 = ev ys 4294967296 - ev (ys.take i) 4294967296
theorem TopEq.start {xs ys : List Int} {i : Nat} (hx : xs.length ≤ i) (hy : ys.length ≤ i) : TopEq xs ys i := by
 unfold TopEq; rw [List.take_of_length_le hx, List.take_of_length_le hy]; omega
theorem TopEq.step {xs ys : List Int} {i : Nat} (h : TopEq xs ys (i + 1)) (e : xs.getD i 0 = ys.getD i 0) : TopEq xs ys i := by
 unfold TopEq at *
 rw [ev_take_succ', ev_take_succ', e] at h
 generalize ys.getD i 0 * 4294967296 ^ i = t at *
 omega
theorem TopEq.zero {xs ys : List Int} (h : TopEq xs ys 0) : ev xs 4294967296 = ev ys 4294967296 := by
 unfold TopEq at h; simp at h; exact h
theorem TopEq.symm {xs ys : List Int} {i : Nat} (h : TopEq xs ys i) : TopEq ys xs i := Eq.symm h
end Cw
/- From some number of rounds on: how the answers of printed functions are put together. -/
namespace Cw
/-- from some number of rounds on, g answers r -/
def Evt {α : Type} (g : Nat → Option α) (r : α) : Prop := ∃ K, ∀ k, K ≤ k → g k = some r
theorem Evt.now {α : Type} (r : α) : Evt (fun _ => some r) r := ⟨0, fun _ _ => rfl⟩
theorem Evt.now' {α : Type} {r r' : α} (h : r' = r) : Evt (fun _ => some r') r := h ▸ Evt.now r'
theorem Evt.rounds {α : Type} {g : Nat → Option α} {r : α} (h : Evt g r) : ∃ k, g k = some r := by
 obtain ⟨K, h⟩ := h
 exact ⟨K, h K (Nat.le_refl _)⟩
theorem Evt.bind {α β : Type} {g : Nat → Option α} {f : Nat → α → Option β} {a : α} {r : β} (h : Evt g a) (k : Evt (fun n => f n a) r) : Evt (fun n => (g n).bind (f n)) r := by
 obtain ⟨K, h⟩ := h
 obtain ⟨K', k⟩ := k
 refine ⟨max K K', fun n hn => ?_⟩
 have h1 := h n (by omega)
 have h2 := k n (by omega)
 simp only [h1, Option.bind_some]
 exact h2
theorem Evt.step {α : Type} {g f : Nat → Option α} {r : α} (h : ∀ k, g (k + 1) = f k) (k : Evt f r) : Evt g r := by
 obtain ⟨K, k⟩ := k
 refine ⟨K + 1, fun n hn => ?_⟩
 obtain ⟨m, rfl⟩ : ∃ m, n = m + 1 := ⟨n - 1, by omega⟩
 rw [h]
 exact k m (by omega)
theorem Evt.congr {α : Type} {g f : Nat → Option α} {r : α} (h : ∀ k, g k = f k) (k : Evt f r) : Evt g r := by
 obtain ⟨K, k⟩ := k
 exact ⟨K, fun n hn => (h n).trans (k n hn)⟩
theorem Evt.pos {α : Type} {c : Prop} [Decidable c] {A B : Nat → Option α} {r : α} (h : c) (H : Evt A r) : Evt (fun k => if c then A k else B k) r :=
 Evt.congr (fun _ => if_pos h) H
theorem Evt.neg {α : Type} {c : Prop} [Decidable c] {A B : Nat → Option α} {r : α} (h : ¬ c) (H : Evt B r) : Evt (fun k => if c then A k else B k) r :=
 Evt.congr (fun _ => if_neg h) H
theorem Evt.fixed {α : Type} {o : Option α} {r : α} (h : o = some r) : Evt (fun _ => o) r := ⟨0, fun _ _ => h⟩
theorem Evt.bind0 {α β : Type} {o : Option α} {f : Nat → α → Option β} {a : α} {r : β} (h : o = some a) (k : Evt (fun n => f n a) r) : Evt (fun n => o.bind (f n)) r :=
 Evt.bind (Evt.fixed h) k
theorem Evt.eq {α : Type} {g : Nat → Option α} {r r' : α} (h : Evt g r) (e : r = r') : Evt g r' := e ▸ h
end Cw
/- The ring of polynomials modulo p and a monic polynomial, on numbers from 0 to p^M - 1; it is a field if the polynomial is irreducible. -/
namespace Cw
/-- the n lowest digits of x in base p -/
def digs (p : Int) : Nat → Int → List Int
 | 0, _ => []
 | n + 1, x => x % p :: digs p n (x / p)
theorem digs_length (p : Int) (n : Nat) (x : Int) : (digs p n x).length = n := by
 induction n generalizing x with
 | zero => rfl
 | succ n ih => simp [digs, ih]
theorem digs_red {p : Int} (hp : 0 < p) (n : Nat) (x : Int) : Red p n (digs p n x) := by
 refine ⟨digs_length p n x, ?_⟩
 induction n generalizing x with
 | zero => intro c hc; simp [digs] at hc
 | succ n ih =>
  intro c hc
  rcases List.mem_cons.1 hc with h | h
  ·
   rw [h]; exact ⟨Int.emod_nonneg _ (by omega), Int.emod_lt_of_pos _ hp⟩
  ·
   exact ih _ c h
theorem ev_digs {p : Int} (hp : 0 < p) (n : Nat) (x : Int) (h0 : 0 ≤ x) (h1 : x < p ^ n) : ev (digs p n x) p = x := by
 induction n generalizing x with
 | zero => simp at h1; simp [digs]; omega
 | succ n ih =>
  rw [digs, ev_cons, ih (x / p) (Int.ediv_nonneg h0 (by omega)) (by rw [Int.pow_succ] at h1; exact Int.ediv_lt_of_lt_mul hp h1)]
  exact Int.emod_add_mul_ediv x p
theorem ev_range {p : Int} (hp : 0 < p) : ∀ {n : Nat} {d : List Int}, Red p n d → 0 ≤ ev d p ∧ ev d p < p ^ n := by
 intro n d
 induction d generalizing n with
 | nil => intro h; have h1 := h.1; simp at h1; subst h1; simp
 | cons c d ih =>
  intro h
  obtain ⟨m, rfl⟩ : ∃ m, n = m + 1 := ⟨n - 1, by have := h.1; simp at this; omega⟩
  have h1 := ih (n := m) ⟨by have := h.1; simpa using this, fun e he => h.2 e (by simp [he])⟩
  have h2 := h.2 c (by simp)
  rw [ev_cons, Int.pow_succ, Int.mul_comm (p ^ m)]
  have h3 : 0 ≤ p * ev d p := Int.mul_nonneg (by omega) h1.1
  have h4 : p * (ev d p + 1) ≤ p * p ^ m := Int.mul_le_mul_of_nonneg_left (by omega) (by omega)
  rw [Int.mul_add] at h4
  omega
theorem digs_ev {p : Int} (hp : 0 < p) : ∀ {n : Nat} {d : List Int}, Red p n d → digs p n (ev d p) = d := by
 intro n d
 induction d generalizing n with
 | nil => intro h; have h1 := h.1; simp at h1; subst h1; rfl
 | cons c d ih =>
  intro h
  obtain ⟨m, rfl⟩ : ∃ m, n = m + 1 := ⟨n - 1, by have := h.1; simp at this; omega⟩
  have h1 := ih (n := m) ⟨by have := h.1; simpa using this, fun e he => h.2 e (by simp [he])⟩
  have h2 := h.2 c (by simp)
  rw [digs, ev_cons]
  have h3 : (c + p * ev d p) % p = c := by rw [Int.add_mul_emod_self_left]; exact Int.emod_eq_of_lt h2.1 h2.2
  have h4 : (c + p * ev d p) / p = ev d p := by
   rw [Int.add_mul_ediv_left _ _ (by omega), Int.ediv_eq_zero_of_lt h2.1 h2.2]; omega
  rw [h3, h4, h1]
/-- division by a monic polynomial -/
theorem monic_div (low : List Int) : ∀ a : List Int, ∃ s r : List Int, (∀ t, ev a t = ev (low ++ [1]) t * ev s t + ev r t) ∧ r.length = low.length := by
 intro a
 rcases List.eq_nil_or_concat low with hl | ⟨l0, cl, hl⟩
 ·
  subst hl; exact ⟨a, [], fun t => by simp, rfl⟩
 ·
  induction a with
  | nil => exact ⟨[], List.replicate low.length 0, fun t => by simp [ev_replicate_zero], by simp⟩
  | cons x a ih =>
   obtain ⟨s, r, e, hr⟩ := ih
   obtain ⟨r0, c, rfl⟩ : ∃ r0 c, r = r0 ++ [c] := by
    rcases List.eq_nil_or_concat r with h | ⟨r0, c, h⟩
    ·
     rw [h, hl] at hr; simp at hr
    ·
     exact ⟨r0, c, by simpa using h⟩
   have hr0 : r0.length + 1 = low.length := by simpa using hr
   refine ⟨c :: s, padd (x :: r0) (pscale (-c) low), fun t => ?_, by rw [padd_length, pscale_length]; simp; omega⟩
   rw [ev_cons, e t, ev_append low, ev_append r0, ev_padd, ev_pscale, ev_cons, ev_cons, ← hr0, Int.pow_succ]
   simp only [ev_cons, ev_nil, Int.mul_zero, Int.add_zero, Int.mul_add, Int.add_mul, Int.mul_one, Int.neg_mul]
   have h1 : t * (t ^ r0.length * c) = t ^ r0.length * t * c := by rw [← Int.mul_assoc, Int.mul_comm t]
   have h2 : t * (ev low t * ev s t) = ev low t * (t * ev s t) := Int.mul_left_comm ..
   have h3 : t * (t ^ r0.length * t * ev s t) = t ^ r0.length * t * (t * ev s t) := Int.mul_left_comm ..
   have h4 : ev low t * c = c * ev low t := Int.mul_comm ..
   omega
/-- the entries modulo p -/
def modp (p : Int) (a : List Int) : List Int := a.map (· % p)
theorem modp_red {p : Int} (hp : 0 < p) (a : List Int) : Red p a.length (modp p a) := by
 refine ⟨by simp [modp], fun c hc => ?_⟩
 obtain ⟨x, _, rfl⟩ := List.mem_map.1 hc
 exact ⟨Int.emod_nonneg _ (by omega), Int.emod_lt_of_pos _ hp⟩
theorem modp_getD (p : Int) (a : List Int) (i : Nat) : (modp p a).getD i 0 = a.getD i 0 % p := by
 by_cases h : i < a.length
 ·
  simp [modp, List.getD_eq_getElem?_getD, List.getElem?_eq_getElem h]
 ·
  simp [modp, List.getD_eq_getElem?_getD, List.getElem?_eq_none (Nat.le_of_not_lt h)]
theorem modp_cong (p : Int) (low a : List Int) : Cong p low (modp p a) a :=
 Cong.of_mod fun i => by rw [modp_getD]; exact ⟨-(a.getD i 0 / p), by have := Int.emod_add_mul_ediv (a.getD i 0) p; rw [Int.mul_neg]; omega⟩
/-- each polynomial has a reduced one -/
theorem exists_red {p : Int} (hp : 0 < p) (low a : List Int) : ∃ r, Red p low.length r ∧ Cong p low r a := by
 obtain ⟨s, r, e, hr⟩ := monic_div low a
 refine ⟨modp p r, hr ▸ modp_red hp r, (modp_cong p low r).trans (Cong.symm ⟨s, [], fun t => by rw [e t]; simp; omega⟩)⟩
/-- a list without its zeros at the end -/
theorem trim_ex (a : List Int) : (∀ c ∈ a, c = 0) ∨ ∃ g c, c ≠ 0 ∧ (g ++ [c]).length ≤ a.length ∧ (∀ x ∈ g ++ [c], x ∈ a) ∧ ∀ t, ev a t = ev (g ++ [c]) t := by
 induction a with
 | nil => left; simp
 | cons x a ih =>
  rcases ih with h | ⟨g, c, h1, h2, h3, h4⟩
  ·
   by_cases hx : x = 0
   ·
    left; intro c hc; rcases List.mem_cons.1 hc with h' | h'
    ·
     omega
    ·
     exact h c h'
   ·
    right; exact ⟨[], x, hx, by simp, by simp, fun t => by rw [ev_cons, ev_zeros a h]; simp⟩
  ·
   right; refine ⟨x :: g, c, h1, by simp at *; omega, fun y hy => ?_, fun t => by rw [ev_cons, h4 t]; rfl⟩
   rcases List.mem_cons.1 hy with h' | h'
   ·
    simp [h']
   ·
    exact List.mem_cons_of_mem _ (h3 y h')
end Cw
/- Sums and products of the numbers from 0 to p^M - 1 by their digits, modulo p and a monic polynomial. -/
namespace Cw
/-- the reduced list of a polynomial -/
noncomputable def redl (p : Int) (low a : List Int) : List Int := if h : 0 < p then Classical.choose (exists_red h low a) else []
theorem redl_spec {p : Int} (hp : 0 < p) (low a : List Int) : Red p low.length (redl p low a) ∧ Cong p low (redl p low a) a := by
 unfold redl
 rw [dif_pos hp]
 exact Classical.choose_spec (exists_red hp low a)
theorem redl_eq {p : Int} (hp : 0 < p) {low a r : List Int} (h1 : Red p low.length r) (h2 : Cong p low r a) : redl p low a = r := by
 obtain ⟨h3, h4⟩ := redl_spec hp low a
 exact Cong.eq hp h3 h1 (h4.trans h2.symm)
/-- the low coefficients of a field's polynomial; of x for a prime field -/
def lowOf (M : Nat) (mod : List Int) : List Int := if M = 1 then [0] else mod
/-- an element, or 0 -/
def fin (q x : Int) : Int := if 0 ≤ x ∧ x < q then x else 0
noncomputable def fadd (p : Int) (M : Nat) (mod : List Int) (x y : Int) : Int :=
 ev (redl p (lowOf M mod) (padd (digs p M (fin (p ^ M) x)) (digs p M (fin (p ^ M) y)))) p
noncomputable def fmul (p : Int) (M : Nat) (mod : List Int) (x y : Int) : Int :=
 ev (redl p (lowOf M mod) (pmul (digs p M (fin (p ^ M) x)) (digs p M (fin (p ^ M) y)))) p
theorem fin_in {q : Int} (hq : 0 < q) (x : Int) : 0 ≤ fin q x ∧ fin q x < q := by
 unfold fin; split
 ·
  assumption
 ·
  omega
theorem fin_self {q x : Int} (h0 : 0 ≤ x) (h1 : x < q) : fin q x = x := if_pos ⟨h0, h1⟩
theorem digs_zero {p : Int} : ∀ n, digs p n 0 = List.replicate n 0
 | 0 => rfl
 | n + 1 => by rw [digs, Int.zero_emod, Int.zero_ediv, digs_zero n, List.replicate_succ]
theorem digs_one {p : Int} (hp : 2 ≤ p) (n : Nat) : digs p (n + 1) 1 = 1 :: List.replicate n 0 := by
 rw [digs, Int.emod_eq_of_lt (by omega) (by omega), Int.ediv_eq_zero_of_lt (by omega) (by omega), digs_zero]
theorem ev_digs_zero {p : Int} (n : Nat) (t : Int) : ev (digs p n 0) t = 0 := by rw [digs_zero, ev_replicate_zero]
theorem ev_digs_one {p : Int} (hp : 2 ≤ p) (n : Nat) (t : Int) : ev (digs p (n + 1) 1) t = 1 := by rw [digs_one hp, ev_cons, ev_replicate_zero]; simp
section
variable {p : Int} {M : Nat} {mod : List Int}
theorem fmul_one (hp : 2 ≤ p) (hM : (lowOf M mod).length = M) (hM1 : 1 ≤ M) {x : Int} (h0 : 0 ≤ x) (h1 : x < p ^ M) : fmul p M mod x 1 = x := by
 obtain ⟨n, rfl⟩ : ∃ n, M = n + 1 := ⟨M - 1, by omega⟩
 have hq : (1 : Int) < p ^ (n + 1) := by
  have : (1 : Int) ≤ p ^ n := Int.pow_pos (by omega)
  have h2 : 1 * p ≤ p ^ n * p := Int.mul_le_mul_of_nonneg_right this (by omega)
  rw [Int.pow_succ]; omega
 unfold fmul
 rw [fin_self h0 h1, fin_self (by omega) hq, redl_eq (r := digs p (n + 1) x) (by omega) (by rw [hM]; exact digs_red (by omega) (n + 1) x) (Cong.of_ev fun t => by rw [ev_pmul, ev_digs_one hp]; omega), ev_digs (by omega) (n + 1) x h0 h1]
end
/-- entrywise sums -/
def zadd (p : Int) : List Int → List Int → List Int
 | a :: as, b :: bs => (a + b) % p :: zadd p as bs
 | _, _ => []
theorem zadd_length (p : Int) : ∀ a b : List Int, a.length = b.length → (zadd p a b).length = a.length
 | [], [], _ => rfl
 | a :: as, b :: bs, h => by simp only [zadd, List.length_cons, zadd_length p as bs (by simpa using h)]
 | [], b :: bs, h => by simp at h
 | a :: as, [], h => by simp at h
theorem zadd_getD (p : Int) : ∀ (a b : List Int) (i : Nat), a.length = b.length → i < a.length → (zadd p a b).getD i 0 = (a.getD i 0 + b.getD i 0) % p
 | [], _, _, _, h => by simp at h
 | a :: as, [], _, h, _ => by simp at h
 | a :: as, b :: bs, 0, _, _ => rfl
 | a :: as, b :: bs, i + 1, h, hi => by
  simp only [zadd, List.getD_cons_succ]
  exact zadd_getD p as bs i (by simpa using h) (by simpa using hi)
theorem zadd_red {p : Int} (hp : 0 < p) : ∀ (a b : List Int), a.length = b.length → Red p a.length (zadd p a b) := by
 intro a b h
 refine ⟨zadd_length p a b h, ?_⟩
 induction a generalizing b with
 | nil => intro c hc; cases b <;> simp [zadd] at hc
 | cons x a ih =>
  cases b with
  | nil => simp at h
  | cons y b =>
   intro c hc
   rcases List.mem_cons.1 hc with h' | h'
   ·
    rw [h']; exact ⟨Int.emod_nonneg _ (by omega), Int.emod_lt_of_pos _ hp⟩
   ·
    exact ih b (by simpa using h) c h'
theorem zadd_cong (p : Int) (low a b : List Int) (h : a.length = b.length) : Cong p low (zadd p a b) (padd a b) := by
 refine Cong.of_mod fun i => ?_
 rw [padd_getD]
 by_cases hi : i < a.length
 ·
  rw [zadd_getD p a b i h hi]
  exact ⟨-((a.getD i 0 + b.getD i 0) / p), by have := Int.emod_add_mul_ediv (a.getD i 0 + b.getD i 0) p; rw [Int.mul_neg]; omega⟩
 ·
  rw [getD_none' _ _ (by rw [zadd_length p a b h]; omega), getD_none' a i (by omega), getD_none' b i (by omega)]
  exact ⟨0, by simp⟩
end Cw
/- Binomial coefficients and the lengths of binary numbers. -/
namespace Cw
/-- the number of subsets with k elements of a set with n elements -/
def binom : Nat → Nat → Nat
 | _, 0 => 1
 | 0, _ + 1 => 0
 | n + 1, k + 1 => binom n k + binom n (k + 1)
@[simp] theorem binom_zero (n : Nat) : binom n 0 = 1 := by cases n <;> rfl
/-- the number of binary digits -/
def blen (n : Nat) : Nat := if n = 0 then 0 else Nat.log2 n + 1
theorem blen_lt (n : Nat) : n < 2 ^ blen n := by
 unfold blen; split
 ·
  rename_i h; simp [h]
 ·
  exact Nat.lt_log2_self
theorem blen_le {n : Nat} (h : n ≠ 0) : 2 ^ (blen n - 1) ≤ n := by
 unfold blen; rw [if_neg h, Nat.add_sub_cancel]; exact Nat.log2_self_le h
theorem blen_pos {n : Nat} (h : n ≠ 0) : 0 < blen n := by unfold blen; rw [if_neg h]; omega
end Cw
/- The numbers of words in balls, as sums. -/
namespace Cw
end Cw
/- Sums over lists, and words at a distance from a word: the volume of a ball. -/
namespace Cw
/-- the sum of f over a list -/
def sm {α : Type} (l : List α) (f : α → Nat) : Nat := (l.map f).sum
@[simp] theorem sm_nil {α : Type} (f : α → Nat) : sm [] f = 0 := rfl
@[simp] theorem sm_cons {α : Type} (a : α) (l : List α) (f : α → Nat) : sm (a :: l) f = f a + sm l f := by simp [sm]
theorem sm_map {α β : Type} (l : List α) (g : α → β) (f : β → Nat) : sm (l.map g) f = sm l (fun x => f (g x)) := by
 simp [sm, List.map_map]; rfl
theorem sm_congr {α : Type} {l : List α} {f g : α → Nat} (h : ∀ x ∈ l, f x = g x) : sm l f = sm l g := by
 induction l with
 | nil => rfl
 | cons a l ih => rw [sm_cons, sm_cons, h a (by simp), ih (fun x hx => h x (by simp [hx]))]
theorem sm_le {α : Type} {l : List α} {f g : α → Nat} (h : ∀ x ∈ l, f x ≤ g x) : sm l f ≤ sm l g := by
 induction l with
 | nil => exact Nat.le_refl _
 | cons a l ih =>
  have h1 := h a (by simp)
  have h2 := ih (fun x hx => h x (by simp [hx]))
  rw [sm_cons, sm_cons]; omega
theorem sm_add {α : Type} (l : List α) (f g : α → Nat) : sm l (fun x => f x + g x) = sm l f + sm l g := by
 induction l with
 | nil => rfl
 | cons a l ih => simp only [sm_cons, ih]; omega
theorem sm_mul {α : Type} (c : Nat) (l : List α) (f : α → Nat) : sm l (fun x => c * f x) = c * sm l f := by
 induction l with
 | nil => rfl
 | cons a l ih => simp only [sm_cons, ih, Nat.mul_add]
theorem sm_const {α : Type} (c : Nat) (l : List α) : sm l (fun _ => c) = l.length * c := by
 induction l with
 | nil => simp
 | cons a l ih => simp only [sm_cons, ih, List.length_cons, Nat.add_mul, Nat.one_mul]; omega
theorem sm_zero {α : Type} {l : List α} {f : α → Nat} (h : ∀ x ∈ l, f x = 0) : sm l f = 0 := by
 rw [sm_congr h, sm_const]; simp
theorem sm_comm {α β : Type} (l : List α) (m : List β) (f : α → β → Nat) : sm l (fun a => sm m (fun b => f a b)) = sm m (fun b => sm l (fun a => f a b)) := by
 induction l with
 | nil => simp only [sm_nil]; rw [sm_zero]; intro _ _; rfl
 | cons a l ih => simp only [sm_cons, ih, sm_add]
theorem sm_length_filter {α : Type} (l : List α) (p : α → Bool) : sm l (fun x => if p x then 1 else 0) = (l.filter p).length := by
 induction l with
 | nil => rfl
 | cons a l ih => rw [sm_cons, ih, List.filter_cons]; split <;> simp <;> omega
/-- the places in which two words differ -/
def dist : List Int → List Int → Nat
 | a :: as, b :: bs => (if a = b then 0 else 1) + dist as bs
 | _, _ => 0
@[simp] theorem dist_nil (b : List Int) : dist [] b = 0 := by cases b <;> rfl
@[simp] theorem dist_nil' (b : List Int) : dist b [] = 0 := by cases b <;> rfl
@[simp] theorem dist_cons (a b : Int) (as bs : List Int) : dist (a :: as) (b :: bs) = (if a = b then 0 else 1) + dist as bs := rfl
theorem dist_self : ∀ a : List Int, dist a a = 0
 | [] => rfl
 | a :: as => by rw [dist_cons, dist_self as]; simp
theorem dist_le : ∀ a b : List Int, dist a b ≤ a.length
 | [], b => by simp
 | a :: as, [] => by simp
 | a :: as, b :: bs => by
  have := dist_le as bs
  rw [dist_cons, List.length_cons]; split <;> omega
/-- the letters 0 to q - 1 -/
def letters (q : Nat) : List Int := (List.range q).map (fun i : Nat => (i : Int))
/-- a word of length n over q letters -/
def IsW (q n : Nat) (w : List Int) : Prop := w.length = n ∧ ∀ x ∈ w, 0 ≤ x ∧ x < (q : Int)
theorem IsW.tail {q n : Nat} {a : Int} {w : List Int} (h : IsW q (n + 1) (a :: w)) : IsW q n w :=
 ⟨by simpa using h.1, fun x hx => h.2 x (by simp [hx])⟩
theorem IsW.head {q n : Nat} {a : Int} {w : List Int} (h : IsW q n (a :: w)) : 0 ≤ a ∧ a < (q : Int) := h.2 a (by simp)
theorem IsW.take {q n k : Nat} {w : List Int} (h : IsW q n w) (hk : k ≤ n) : IsW q k (w.take k) :=
 ⟨by rw [List.length_take, h.1]; omega, fun x hx => h.2 x (List.mem_of_mem_take hx)⟩
theorem letters_length (q : Nat) : (letters q).length = q := by simp [letters]
end Cw
/- The bound of Elias in plain numbers: the least quotient over the radii. -/
namespace Cw
end Cw
/- No list of words with distance d has more words than the bounds of Singleton, Hamming, Plotkin and Elias say. -/
namespace Cw
/-- any two of the words differ in at least d places -/
def Apart (d : Nat) (W : List (List Int)) : Prop := W.Pairwise (fun a b => d ≤ dist a b)
def AllW (q n : Nat) (W : List (List Int)) : Prop := ∀ c ∈ W, IsW q n c
theorem AllW.cons {q n : Nat} {c : List Int} {W : List (List Int)} (h : AllW q n (c :: W)) : IsW q n c ∧ AllW q n W :=
 ⟨h c (by simp), fun x hx => h x (by simp [hx])⟩
theorem Apart.filter {d : Nat} {W : List (List Int)} (h : Apart d W) (p : List Int → Bool) : Apart d (W.filter p) := List.Pairwise.filter p h
end Cw
/- All words, as the reference lists them: by unit vectors; and how many of them lie in a ball. -/
namespace Cw
theorem dist_eq_zero : ∀ {a b : List Int}, a.length = b.length → dist a b = 0 → a = b
 | [], [], _, _ => rfl
 | a :: as, b :: bs, h, hd => by
  rw [dist_cons] at hd
  by_cases hab : a = b
  ·
   rw [if_pos hab] at hd
   have := dist_eq_zero (a := as) (b := bs) (by simpa using h) (by omega)
   rw [hab, this]
  ·
   rw [if_neg hab] at hd; omega
 | [], b :: bs, h, _ => by simp at h
 | a :: as, [], h, _ => by simp at h
end Cw
/- The estimate of a quotient's digit out of the leading digits (Knuth's algorithm D), in plain integers. -/
namespace Cw
/-- what is known of the numbers: V = V3 P + vl, U = T3 P + ul, V3 = v1 B + v2, T3 = top B + u2 -/
structure KN (B P v1 v2 vl top u2 ul q : Int) : Prop where
 B0 : 0 < B
 P0 : 0 < P
 hv1 : 1 ≤ v1
 hv2 : 0 ≤ v2 ∧ v2 < B
 hvl : 0 ≤ vl ∧ vl < P
 htop : 0 ≤ top
 hu2 : 0 ≤ u2 ∧ u2 < B
 hul : 0 ≤ ul ∧ ul < P
 q0 : 0 ≤ q
 q1 : q < B
 lo : q * ((v1 * B + v2) * P + vl) ≤ (top * B + u2) * P + ul
 hi : (top * B + u2) * P + ul < (q + 1) * ((v1 * B + v2) * P + vl)
variable {B P v1 v2 vl top u2 ul q : Int}
theorem KN.le3 (h : KN B P v1 v2 vl top u2 ul q) : q * (v1 * B + v2) ≤ top * B + u2 := by
 have h1 : 0 ≤ q * vl := Int.mul_nonneg h.q0 h.hvl.1
 have h2 := h.lo
 rw [Int.mul_add, ← Int.mul_assoc] at h2
 have h3 := h.hul.2
 have h4 : (q * (v1 * B + v2)) * P < (top * B + u2 + 1) * P := by rw [Int.add_mul, Int.one_mul]; omega
 have := Int.lt_of_mul_lt_mul_right h4 (Int.le_of_lt h.P0)
 omega
/-- at the start -/
theorem KN.start (h : KN B P v1 v2 vl top u2 ul q) : q ≤ top / v1 := by
 have h1 := h.le3
 have h2 : 0 ≤ q * v2 := Int.mul_nonneg h.q0 h.hv2.1
 have h3 : (q * v1) * B < (top + 1) * B := by
  rw [Int.mul_add, ← Int.mul_assoc] at h1
  rw [Int.add_mul, Int.one_mul]
  have := h.hu2.2
  omega
 have h4 := Int.lt_of_mul_lt_mul_right h3 (Int.le_of_lt h.B0)
 exact (Int.le_ediv_iff_mul_le (by have := h.hv1; omega)).2 (by omega)
theorem KN.stop (h : KN B P v1 v2 vl top u2 ul q) {e r : Int} (he0 : 0 ≤ e) (heB : e < B) (he : e * v1 + r = top) (hd : e * v2 ≤ r * B + u2) : e ≤ q + 1 := by
 have h2 : top * B = e * v1 * B + r * B := by rw [← he, Int.add_mul]
 have h3 : e * (v1 * B + v2) ≤ top * B + u2 := by
  have : e * (v1 * B + v2) = e * v1 * B + e * v2 := by rw [Int.mul_add, Int.mul_assoc]
  rw [this]; omega
 have h4 : e * (v1 * B + v2) * P ≤ (top * B + u2) * P := Int.mul_le_mul_of_nonneg_right h3 (Int.le_of_lt h.P0)
 have h5 : e * vl ≤ e * P := Int.mul_le_mul_of_nonneg_left (Int.le_of_lt h.hvl.2) he0
 have h6 : (e + 1) * P ≤ B * P := Int.mul_le_mul_of_nonneg_right (by omega) (Int.le_of_lt h.P0)
 have h7 : 1 * (B * P) ≤ v1 * (B * P) := Int.mul_le_mul_of_nonneg_right h.hv1 (Int.mul_nonneg (Int.le_of_lt h.B0) (Int.le_of_lt h.P0))
 have h8 : 0 ≤ v2 * P := Int.mul_nonneg h.hv2.1 (Int.le_of_lt h.P0)
 have h9 := h.hvl.1
 have h10 := h.hul.1
 have hP := h.P0
 have e1 : e * ((v1 * B + v2) * P + vl) = e * (v1 * B + v2) * P + e * vl := by rw [Int.mul_add, Int.mul_assoc]
 have e2 : (v1 * B + v2) * P = v1 * (B * P) + v2 * P := by rw [Int.add_mul, Int.mul_assoc]
 rw [Int.add_mul, Int.one_mul] at h6
 have h11 : e * ((v1 * B + v2) * P + vl) < (q + 2) * ((v1 * B + v2) * P + vl) := by
  have h12 := h.hi
  have e3 : (q + 2) * ((v1 * B + v2) * P + vl) = (q + 1) * ((v1 * B + v2) * P + vl) + ((v1 * B + v2) * P + vl) := by
   rw [show q + 2 = (q + 1) + 1 by omega, Int.add_mul (q + 1) 1, Int.one_mul]
  rw [e3, e1]
  omega
 have h13 : 0 ≤ (v1 * B + v2) * P + vl := by
  rw [e2]
  have : 0 ≤ B * P := Int.mul_nonneg (Int.le_of_lt h.B0) (Int.le_of_lt h.P0)
  omega
 have := Int.lt_of_mul_lt_mul_right h11 h13
 omega
end Cw
/- Subtracting a multiple and adding back, limb by limb. -/
namespace Cw
/-- the L lowest limbs of n -/
def lims : Nat → Nat → List Int
 | 0, _ => []
 | L + 1, n => ((n % 4294967296 : Nat) : Int) :: lims L (n / 4294967296)
theorem lims_lim (L n : Nat) : Lim (lims L n) := by
 induction L generalizing n with
 | zero => exact Lim.nil
 | succ L ih => exact Lim.cons (by omega) (by omega) (ih _)
theorem lims_is {L n : Nat} (h : n < 4294967296 ^ L) : Is (lims L n) n := by
  induction L generalizing n with
  | zero => have : n = 0 := by simpa using h
            rw [this]; exact Is.nil
  | succ L ih =>
    have h1 : n / 4294967296 < 4294967296 ^ L := by
      rw [Nat.pow_succ] at h; exact Nat.div_lt_of_lt_mul (by rw [Nat.mul_comm]; exact h)
    have := Is.cons (c := ((n % 4294967296 : Nat) : Int)) (by omega) (by omega) (ih h1)
    have e : ((n % 4294967296 : Nat) : Int).toNat + 4294967296 * (n / 4294967296) = n := by omega
    rwa [e] at this
/-- e times i limbs of v are subtracted; c is carried, b is borrowed -/
def SubInv (u v w : List Int) (e c b : Int) (i : Nat) : Prop :=
 ev w 4294967296 = ev u 4294967296 - e * ev (v.take i) 4294967296 + (c + b) * 4294967296 ^ i ∧ ∀ j, i ≤ j → w.getD j 0 = u.getD j 0
theorem SubInv.start (u v : List Int) (e : Int) : SubInv u v u e 0 0 0 := ⟨by simp, fun _ _ => rfl⟩
theorem SubInv.step {u v w : List Int} {e c b d b' : Int} {i : Nat} (h : SubInv u v w e c b i) (hi : i < w.length)
  (hd : d = u.getD i 0 - (e * v.getD i 0 + c) % 4294967296 - b + b' * 4294967296) :
  SubInv u v (w.set i d) e ((e * v.getD i 0 + c) / 4294967296) b' (i + 1) := by
 obtain ⟨h1, h2⟩ := h
 refine ⟨?_, fun j hj => by rw [lset_ne _ _ _ _ (by omega)]; exact h2 j (by omega)⟩
 rw [ev_set _ _ _ _ hi, h2 i (Nat.le_refl _), h1, ev_take_succ', Int.pow_succ, hd]
 have e1 := Int.emod_add_mul_ediv (e * v.getD i 0 + c) 4294967296
 generalize (e * v.getD i 0 + c) % 4294967296 = r at *
 generalize (e * v.getD i 0 + c) / 4294967296 = q at *
 generalize (4294967296 : Int) ^ i = P at *
 have e2 : r = e * v.getD i 0 + c - 4294967296 * q := by omega
 rw [e2]
 generalize ev (v.take i) 4294967296 = F at *
 generalize v.getD i 0 = x at *
 generalize u.getD i 0 = y at *
 clear hd h1 h2 e1 e2
 grind
/-- i limbs of v are added to w0 -/
def AddInv (w0 v w : List Int) (c : Int) (i : Nat) : Prop :=
 ev w 4294967296 + c * 4294967296 ^ i = ev w0 4294967296 + ev (v.take i) 4294967296 ∧ ∀ j, i ≤ j → w.getD j 0 = w0.getD j 0
theorem AddInv.start (w0 v : List Int) : AddInv w0 v w0 0 0 := ⟨by simp, fun _ _ => rfl⟩
theorem AddInv.step {w0 v w : List Int} {c : Int} {i : Nat} (h : AddInv w0 v w c i) (hi : i < w.length) :
  AddInv w0 v (w.set i ((w0.getD i 0 + v.getD i 0 + c) % 4294967296)) ((w0.getD i 0 + v.getD i 0 + c) / 4294967296) (i + 1) := by
 obtain ⟨h1, h2⟩ := h
 refine ⟨?_, fun j hj => by rw [lset_ne _ _ _ _ (by omega)]; exact h2 j (by omega)⟩
 rw [ev_set _ _ _ _ hi, h2 i (Nat.le_refl _), ev_take_succ', Int.pow_succ]
 have e1 := Int.emod_add_mul_ediv (w0.getD i 0 + v.getD i 0 + c) 4294967296
 generalize (w0.getD i 0 + v.getD i 0 + c) % 4294967296 = r at *
 generalize (w0.getD i 0 + v.getD i 0 + c) / 4294967296 = q at *
 generalize (4294967296 : Int) ^ i = P at *
 have e2 : r = w0.getD i 0 + v.getD i 0 + c - 4294967296 * q := by omega
 rw [e2]
 generalize ev w 4294967296 = E at *
 generalize ev (v.take i) 4294967296 = F at *
 generalize ev w0 4294967296 = G at *
 clear h2 e1 e2
 grind
end Cw
/- The state of Knuth's algorithm D out of the numbers' limbs. -/
namespace Cw
end Cw
/- A number times a power of two, limb by limb. -/
namespace Cw
/-- i limbs of a times M; c is carried -/
def ShInv (a out : List Int) (M c : Int) (i : Nat) : Prop := ev out 4294967296 + c * 4294967296 ^ i = M * ev (a.take i) 4294967296
theorem ShInv.start (a : List Int) (M : Int) (n : Nat) : ShInv a (List.replicate n 0) M 0 0 := by
 unfold ShInv; rw [ev_replicate_zero]; simp
theorem ShInv.step {a out : List Int} {M c : Int} {i : Nat} (h : ShInv a out M c i) (hi : i < out.length) (hz : out.getD i 0 = 0) :
  ShInv a (out.set i ((a.getD i 0 * M + c) % 4294967296)) M ((a.getD i 0 * M + c) / 4294967296) (i + 1) := by
 unfold ShInv at *
 rw [ev_set _ _ _ _ hi, hz, ev_take_succ', Int.pow_succ]
 have e1 := Int.emod_add_mul_ediv (a.getD i 0 * M + c) 4294967296
 generalize (4294967296 : Int) ^ i = P at *
 generalize ev out 4294967296 = E at *
 generalize (a.getD i 0 * M + c) % 4294967296 = r at *
 generalize (a.getD i 0 * M + c) / 4294967296 = q at *
 have e2 : r = a.getD i 0 * M + c - 4294967296 * q := by omega
 rw [e2]
 grind
end Cw
/- Long division: the rest in x8, the quotient's digits in x4, from the top down. -/
namespace Cw
/-- x4 times V and x8 are U; the rest is below V times B^t -/
def LongInv (x4 x8 : List Int) (U V t : Nat) : Prop :=
 Lim x4 ∧ Lim x8 ∧ ev x4 4294967296 * V + ev x8 4294967296 = (U : Int) ∧ ev x8 4294967296 < (V : Int) * 4294967296 ^ t
/-- a digit of the quotient -/
theorem LongInv.step {x4 x8 : List Int} {U V j K W : Nat} (h : LongInv x4 x8 U V (j + 1)) (hV0 : 0 < V) (hVK : V < 4294967296 ^ K) (hl : j + K + 1 ≤ x8.length)
  (hj : j < x4.length) (hz : x4.getD j 0 = 0) (hlt : W < V * 4294967296)
  (he : ev x8 4294967296 = ev (x8.take j) 4294967296 + 4294967296 ^ j * (W : Int)) (hhi : ev (x8.drop (j + K + 1)) 4294967296 = 0)
  (h0 : 0 ≤ ev (x8.take j) 4294967296) (h1 : ev (x8.take j) 4294967296 < 4294967296 ^ j) :
  LongInv (x4.set j ((W / V : Nat) : Int)) (x8.take j ++ lims (K + 1) (W % V) ++ x8.drop (j + K + 1)) U V j := by
 obtain ⟨g1, g2, g3, g4⟩ := h
 have hq : W / V < 4294967296 := Nat.div_lt_of_lt_mul hlt
 have hr : W % V < V := Nat.mod_lt _ hV0
 have hdm : V * (W / V) + W % V = W := Nat.div_add_mod W V
 have hrl : W % V < 4294967296 ^ (K + 1) := Nat.lt_trans hr (Nat.lt_of_lt_of_le hVK (Nat.pow_le_pow_right (by omega) (by omega)))
 have l1 : (x8.take j).length = j := by rw [List.length_take]; omega
 have hev : ev (x8.take j ++ lims (K + 1) (W % V) ++ x8.drop (j + K + 1)) 4294967296 = ev (x8.take j) 4294967296 + 4294967296 ^ j * ((W % V : Nat) : Int) := by
  rw [List.append_assoc, ev_append, ev_append, l1, hhi, (lims_is hrl).2]
  simp
 refine ⟨g1.set _ (Int.natCast_nonneg _) (Int.ofNat_lt.2 hq), ((g2.take _).append (lims_lim _ _)).append (g2.drop _), ?_, ?_⟩
 ·
  rw [hev, ev_set _ _ _ _ hj, hz, ← g3, he]
  have hdm' := congrArg (fun x : Nat => (x : Int)) hdm
  simp only [Int.natCast_add, Int.natCast_mul] at hdm'
  rw [← hdm']
  generalize (4294967296 : Int) ^ j = A
  generalize ev (x8.take j) 4294967296 = F
  generalize ev x4 4294967296 = E
  generalize ((W / V : Nat) : Int) = q
  generalize ((W % V : Nat) : Int) = r
  clear hdm' hev l1 hrl hdm hr hq
  grind
 ·
  rw [hev]
  have a1 : (4294967296 : Int) ^ j * (((W % V : Nat) : Int) + 1) ≤ 4294967296 ^ j * (V : Int) := Int.mul_le_mul_of_nonneg_left (by omega) (by omega)
  rw [Int.mul_add, Int.mul_one] at a1
  rw [Int.mul_comm (V : Int)]
  omega
end Cw
/- A number divided by a power of two, limb by limb. -/
namespace Cw
end Cw
/- Subtracting limb by limb, shifting by whole limbs and bits, and dividing by subtracting shifted numbers. -/
namespace Cw
/-- i limbs of b are subtracted from a; c is borrowed -/
def RSubInv (a b out : List Int) (c : Int) (i : Nat) : Prop := ev out 4294967296 = ev (a.take i) 4294967296 - ev (b.take i) 4294967296 + c * 4294967296 ^ i
theorem RSubInv.step {a b out : List Int} {c : Int} {i : Nat} (h : RSubInv a b out c i) (hl : out.length = i) :
  RSubInv a b (out ++ [(a.getD i 0 + 4294967296 - b.getD i 0 - c) % 4294967296]) (1 - (a.getD i 0 + 4294967296 - b.getD i 0 - c) / 4294967296) (i + 1) := by
 unfold RSubInv at *
 rw [ev_append, hl, h, ev_take_succ', ev_take_succ', Int.pow_succ]
 have e1 := Int.emod_add_mul_ediv (a.getD i 0 + 4294967296 - b.getD i 0 - c) 4294967296
 generalize (a.getD i 0 + 4294967296 - b.getD i 0 - c) % 4294967296 = r at *
 generalize (a.getD i 0 + 4294967296 - b.getD i 0 - c) / 4294967296 = q at *
 have e2 : r = a.getD i 0 + 4294967296 - b.getD i 0 - c - 4294967296 * q := by omega
 simp only [ev_cons, ev_nil, Int.mul_zero, Int.add_zero]
 rw [e2]
 generalize (4294967296 : Int) ^ i = P at *
 generalize ev (a.take i) 4294967296 = E at *
 generalize ev (b.take i) 4294967296 = F at *
 generalize a.getD i 0 = x at *
 generalize b.getD i 0 = y at *
 clear h e1 e2
 grind
theorem RSubInv.start (a b : List Int) : RSubInv a b [] 0 0 := by unfold RSubInv; simp
/-- i limbs of b are subtracted from w in place; c is borrowed -/
def PSubInv (a b out : List Int) (c : Int) (i : Nat) : Prop :=
 ev out 4294967296 = ev a 4294967296 - ev (b.take i) 4294967296 + c * 4294967296 ^ i ∧ ∀ j, i ≤ j → out.getD j 0 = a.getD j 0
theorem PSubInv.start (a b : List Int) : PSubInv a b a 0 0 := ⟨by simp, fun _ _ => rfl⟩
theorem PSubInv.step {a b out : List Int} {c d c' : Int} {i : Nat} (h : PSubInv a b out c i) (hi : i < out.length)
  (hd : d = a.getD i 0 - c - b.getD i 0 + c' * 4294967296) : PSubInv a b (out.set i d) c' (i + 1) := by
 obtain ⟨h1, h2⟩ := h
 refine ⟨?_, fun j hj => by rw [lset_ne _ _ _ _ (by omega)]; exact h2 j (by omega)⟩
 rw [ev_set _ _ _ _ hi, h2 i (Nat.le_refl _), h1, ev_take_succ', Int.pow_succ, hd]
 generalize (4294967296 : Int) ^ i = P at *
 generalize ev (b.take i) 4294967296 = F at *
 generalize ev a 4294967296 = E at *
 generalize a.getD i 0 = x at *
 generalize b.getD i 0 = y at *
 clear h1 h2 hd
 grind
/-- W zero limbs, then i limbs of a times M; c is carried -/
def RShInv (a out : List Int) (M : Int) (W : Nat) (c : Int) (i : Nat) : Prop := ev out 4294967296 + c * 4294967296 ^ (W + i) = M * 4294967296 ^ W * ev (a.take i) 4294967296
theorem RShInv.start (a : List Int) (M : Int) (W : Nat) : RShInv a (List.replicate W 0) M W 0 0 := by
 unfold RShInv; rw [ev_replicate_zero]; simp
theorem RShInv.step {a out : List Int} {M c : Int} {W i : Nat} (h : RShInv a out M W c i) (hl : out.length = W + i) :
  RShInv a (out ++ [(a.getD i 0 * M + c) % 4294967296]) M W ((a.getD i 0 * M + c) / 4294967296) (i + 1) := by
 unfold RShInv at *
 rw [ev_append, hl, ev_take_succ', ← Nat.add_assoc, Int.pow_succ]
 have e1 := Int.emod_add_mul_ediv (a.getD i 0 * M + c) 4294967296
 generalize (a.getD i 0 * M + c) % 4294967296 = r at *
 generalize (a.getD i 0 * M + c) / 4294967296 = q at *
 have e2 : r = a.getD i 0 * M + c - 4294967296 * q := by omega
 simp only [ev_cons, ev_nil, Int.mul_zero, Int.add_zero]
 rw [e2]
 rw [Int.pow_add] at *
 generalize (4294967296 : Int) ^ i = P at *
 generalize (4294967296 : Int) ^ W = Q at *
 generalize ev out 4294967296 = E at *
 generalize ev (a.take i) 4294967296 = F at *
 generalize a.getD i 0 = x at *
 clear e1 e2
 grind
/-- quotient so far q, rest so far r -/
def DivInv (m b q r i : Nat) : Prop := m = q * b + r ∧ r < b * 2 ^ i
theorem DivInv.start {m b : Nat} (hb : b ≠ 0) (i : Nat) (h : blen m ≤ blen b + i - 1) : DivInv m b 0 m i := by
 refine ⟨by omega, ?_⟩
 have h1 := blen_lt m
 have h2 := blen_le hb
 have h3 := blen_pos hb
 have h4 : 2 ^ blen m ≤ 2 ^ (blen b - 1 + i) := Nat.pow_le_pow_right (by omega) (by omega)
 rw [Nat.pow_add] at h4
 exact Nat.lt_of_lt_of_le h1 (Nat.le_trans h4 (Nat.mul_le_mul_right _ h2))
theorem DivInv.yes {m b q r i : Nat} (h : DivInv m b q r (i + 1)) (hge : b * 2 ^ i ≤ r) : DivInv m b (q + 2 ^ i) (r - b * 2 ^ i) i := by
 obtain ⟨h1, h2⟩ := h
 rw [Nat.pow_succ, ← Nat.mul_assoc] at h2
 refine ⟨?_, by omega⟩
 rw [Nat.add_mul, Nat.mul_comm (2 ^ i)]; omega
end Cw
/- Fractions by their values: the canonical form, and how large its numbers are. -/
namespace Cw
def rnum (r : Rat) : Nat := r.num.natAbs
theorem rnum_zero : rnum 0 = 0 := rfl
theorem rden_zero : (0 : Rat).den = 1 := rfl
/-- the numbers of a fraction have at most s binary digits -/
def Sz (r : Rat) (s : Nat) : Prop := rnum r < 2 ^ s ∧ r.den < 2 ^ s
theorem Sz.mono {r : Rat} {s t : Nat} (h : Sz r s) (hst : s ≤ t) : Sz r t :=
 ⟨Nat.lt_of_lt_of_le h.1 (Nat.pow_le_pow_right (by omega) hst), Nat.lt_of_lt_of_le h.2 (Nat.pow_le_pow_right (by omega) hst)⟩
theorem Sz.zero : Sz 0 1 := by unfold Sz; rw [rnum_zero, rden_zero]; decide
theorem Sz.one : Sz 1 1 := by unfold Sz; decide
theorem Sz.neg {r : Rat} {s : Nat} (h : Sz r s) : Sz (-r) s := by
 unfold Sz rnum at *
 rw [Rat.neg_num, Int.natAbs_neg, Rat.neg_den]; exact h
theorem sz_mkRat {n : Int} {d s : Nat} (hd : d ≠ 0) (hn : n.natAbs < 2 ^ s) (hds : d < 2 ^ s) : Sz (mkRat n d) s := by
 unfold Sz rnum
 rw [Rat.mkRat_def, dif_neg hd, Rat.normalize_eq]
 refine ⟨Nat.lt_of_le_of_lt ?_ hn, Nat.lt_of_le_of_lt (Nat.div_le_self _ _) hds⟩
 show (n / ((n.natAbs.gcd d : Nat) : Int)).natAbs ≤ n.natAbs
 exact Int.natAbs_ediv_le_natAbs _ _
theorem Sz.add {a b : Rat} {s t : Nat} (ha : Sz a s) (hb : Sz b t) : Sz (a + b) (s + t + 1) := by
 have d1 := a.den_nz
 have d2 := b.den_nz
 rw [Rat.add_def']
 refine sz_mkRat (Nat.mul_ne_zero d1 d2) ?_ ?_
 ·
  have h1 : (a.num * (b.den : Int)).natAbs < 2 ^ s * 2 ^ t := by
   rw [Int.natAbs_mul, Int.natAbs_natCast]; exact Nat.mul_lt_mul'' ha.1 hb.2
  have h2 : (b.num * (a.den : Int)).natAbs < 2 ^ s * 2 ^ t := by
   rw [Int.natAbs_mul, Int.natAbs_natCast, Nat.mul_comm (2 ^ s)]; exact Nat.mul_lt_mul'' hb.1 ha.2
  have h3 := Int.natAbs_add_le (a.num * (b.den : Int)) (b.num * (a.den : Int))
  rw [Nat.pow_succ, Nat.pow_add]; omega
 ·
  have h1 : a.den * b.den < 2 ^ s * 2 ^ t := Nat.mul_lt_mul'' ha.2 hb.2
  rw [Nat.pow_succ, Nat.pow_add]; omega
theorem Sz.mul {a b : Rat} {s t : Nat} (ha : Sz a s) (hb : Sz b t) : Sz (a * b) (s + t) := by
 have d1 := a.den_nz
 have d2 := b.den_nz
 rw [Rat.mul_def']
 refine sz_mkRat (Nat.mul_ne_zero d1 d2) ?_ ?_
 ·
  rw [Int.natAbs_mul, Nat.pow_add]; exact Nat.mul_lt_mul'' ha.1 hb.1
 ·
  rw [Nat.pow_add]; exact Nat.mul_lt_mul'' ha.2 hb.2
theorem Sz.len {r : Rat} {s L : Nat} (h : Sz r s) (hs : s ≤ 32 * L) : (enc (rnum r)).length ≤ L ∧ (enc r.den).length ≤ L := by
 have hp : 2 ^ s ≤ 4294967296 ^ L := by
  rw [show (4294967296 : Nat) = 2 ^ 32 by rfl, ← Nat.pow_mul]
  exact Nat.pow_le_pow_right (by omega) hs
 exact ⟨enc_length_le _ (Nat.lt_of_lt_of_le h.1 hp), enc_length_le _ (Nat.lt_of_lt_of_le h.2 hp)⟩
end Cw
/- Residues modulo a prime and an irreducible monic polynomial have inverses; the laws of fadd and fmul. -/
namespace Cw
/-- numbers modulo a prime have inverses -/
theorem inv_mod {p : Nat} (hpr : ∀ c : Nat, 2 ≤ c → c < p → ¬ c ∣ p) : ∀ (n c : Nat), c ≤ n → 1 ≤ c → c < p → ∃ x k : Int, (c : Int) * x - 1 = p * k
 | 0, c, h, h1, _ => by omega
 | n + 1, c, h, h1, h2 => by
  by_cases hc : c = 1
  ·
   exact ⟨1, 0, by subst hc; simp⟩
  ·
   have hr : p % c ≠ 0 := fun e => hpr c (by omega) h2 (Nat.dvd_of_mod_eq_zero e)
   have hl := Nat.mod_lt p (show c > 0 by omega)
   obtain ⟨x, k, hk⟩ := inv_mod hpr n (p % c) (by omega) (by omega) (by omega)
   have e := Nat.div_add_mod p c
   have e2 : (p : Int) = (c : Int) * ((p / c : Nat) : Int) + ((p % c : Nat) : Int) := by
    rw [← Int.natCast_mul, ← Int.natCast_add, e]
   generalize ((p / c : Nat) : Int) = Q at *
   generalize ((p % c : Nat) : Int) = R at *
   refine ⟨-(Q * x), k - x, ?_⟩
   have h3 : (p : Int) * (k - x) = R * x - 1 - (c * Q + R) * x := by rw [Int.mul_sub, ← hk, ← e2]
   rw [h3, Int.add_mul, Int.mul_neg, Int.mul_assoc]
   generalize (c : Int) * (Q * x) = A
   generalize R * x = B
   omega
theorem modp_ev (p : Int) : ∀ a : List Int, ∃ w : List Int, ∀ t, ev (modp p a) t = ev a t + p * ev w t
 | [] => ⟨[], fun t => by simp [modp]⟩
 | x :: a => by
  obtain ⟨w, hw⟩ := modp_ev p a
  refine ⟨-(x / p) :: w, fun t => ?_⟩
  have h1 := Int.emod_add_mul_ediv x p
  have h2 : ev (modp p (x :: a)) t = x % p + t * ev (modp p a) t := rfl
  rw [h2, hw t, ev_cons, ev_cons, Int.mul_add, Int.mul_add, Int.mul_neg, Int.mul_left_comm p t]
  generalize t * (p * ev w t) = A
  generalize p * (x / p) = B at *
  omega
theorem modp_length (p : Int) (a : List Int) : (modp p a).length = a.length := by simp [modp]
theorem zero_cong {p : Int} {low g : List Int} (h : Cong p g low []) : Cong p (modp p g) low [] := by
 obtain ⟨x, u, e⟩ := h
 obtain ⟨w, hw⟩ := modp_ev p g
 refine ⟨x, padd u (pscale (-1) (pmul w x)), fun t => ?_⟩
 have h1 : ev (g ++ [1]) t = ev (modp p g ++ [1]) t - p * ev w t := by
  rw [ev_append, ev_append, hw t, modp_length]; omega
 rw [e t, h1, ev_padd, ev_pscale, ev_pmul, Int.sub_mul, Int.mul_add, Int.mul_assoc p]
 generalize ev (modp p g ++ [1]) t * ev x t = A
 rw [show p * (-1 * (ev w t * ev x t)) = -(p * (ev w t * ev x t)) by rw [Int.neg_mul, Int.one_mul, Int.mul_neg]]
 generalize p * (ev w t * ev x t) = B
 generalize p * ev u t = C
 omega
/-- the entries modulo p: all 0, or some and a last one that has an inverse -/
theorem trim_mod {p : Nat} (hp : 2 ≤ p) (hpr : ∀ c : Nat, 2 ≤ c → c < p → ¬ c ∣ p) (r : List Int) :
  (∃ w : List Int, ∀ t, ev r t = p * ev w t) ∨ ∃ (g w : List Int) (c x k : Int), (g ++ [c]).length ≤ r.length ∧ 0 < c ∧ c < p ∧ c * x - 1 = p * k ∧ ∀ t, ev (g ++ [c]) t = ev r t + p * ev w t := by
 obtain ⟨w, hw⟩ := modp_ev (p : Int) r
 have hred := modp_red (p := (p : Int)) (by omega) r
 rcases trim_ex (modp p r) with h | ⟨g, c, h1, h2, h3, h4⟩
 ·
  refine .inl ⟨pscale (-1) w, fun t => ?_⟩
  have := hw t
  rw [ev_zeros _ h] at this
  rw [ev_pscale, Int.neg_mul, Int.one_mul, Int.mul_neg]; omega
 ·
  have hc := hred.2 c (h3 c (by simp))
  obtain ⟨C, rfl⟩ := Int.eq_ofNat_of_zero_le hc.1
  obtain ⟨x, k, hk⟩ := inv_mod hpr C C (Nat.le_refl _) (by omega) (by omega)
  exact .inr ⟨g, w, C, x, k, by rw [modp_length] at h2; exact h2, by omega, hc.2, hk, fun t => by rw [← h4 t, hw t]⟩
/-- the monic multiple -/
theorem make_monic {p c x k t : Int} (hk : c * x - 1 = p * k) (g : List Int) : ev (pscale x g ++ [1]) t = x * ev (g ++ [c]) t - p * (k * t ^ g.length) := by
 rw [ev_append, ev_append, ev_pscale, pscale_length, Int.mul_add]
 simp only [ev_cons, ev_nil, Int.mul_zero, Int.add_zero, Int.mul_one]
 have e : x * (t ^ g.length * c) = p * (k * t ^ g.length) + t ^ g.length := by
  rw [← Int.mul_assoc p, ← hk, Int.sub_mul, Int.one_mul]
  generalize t ^ g.length = T
  rw [Int.mul_comm T, Int.mul_left_comm, Int.mul_assoc]
  omega
 rw [e]; omega
theorem top_coef (low s : List Int) (i : Nat) : (padd (pmul low s) (List.replicate low.length 0 ++ s)).getD i 0 = (pmul low s).getD i 0 + (if i < low.length then 0 else s.getD (i - low.length) 0) := by
 rw [padd_getD]
 by_cases h : i < low.length
 ·
  rw [if_pos h, getD_append_left' _ _ _ (by simpa using h)]
  congr 1
  rw [List.getD_eq_getElem?_getD, List.getElem?_replicate]; split <;> rfl
 ·
  rw [if_neg h, getD_append_right' _ _ _ (by simpa using h), List.length_replicate]
/-- the cofactor of a monic divisor is monic -/
theorem cofactor {p : Nat} (hp : 2 ≤ p) (low g s0 u : List Int) (c : Int) (hc : 0 < c ∧ c < p) (h : ∀ t, ev (low ++ [1]) t = ev (g ++ [1]) t * ev (s0 ++ [c]) t + p * ev u t) : g.length + s0.length = low.length ∧ c = 1 := by
 have key : ∀ i, (low ++ [1]).getD i 0 = (padd (padd (pmul g (s0 ++ [c])) (List.replicate g.length 0 ++ (s0 ++ [c]))) (pscale p u)).getD i 0 :=
  coef_ext _ _ (fun t => by rw [h t, ev_monic, ev_padd, ev_padd, ev_pscale])
 have hl : ∀ i, g.length + s0.length ≤ i → (pmul g (s0 ++ [c])).getD i 0 = 0 := fun i hi => getD_none' _ _ (by
  have := pmul_length g (s0 ++ [c]) (by simp); simp at this; omega)
 have h1 := key (g.length + s0.length)
 rw [padd_getD, top_coef, hl _ (Nat.le_refl _), if_neg (by omega), pscale_getD, Nat.add_sub_cancel_left, getD_append_right' _ _ _ (Nat.le_refl _), Nat.sub_self] at h1
 simp only [List.getD_cons_zero, Int.zero_add] at h1
 have hdvd : ∀ {x : Int}, 0 < x → x < p → ¬ (p : Int) ∣ x := fun h0 h1 hd => by
  have := Int.le_of_dvd h0 hd; omega
 have hle : g.length + s0.length ≤ low.length := by
  rcases Nat.lt_or_ge low.length (g.length + s0.length) with h2 | h2
  ·
   exfalso
   rw [getD_none' _ _ (by simp; omega)] at h1
   exact hdvd hc.1 hc.2 ⟨-u.getD (g.length + s0.length) 0, by rw [Int.mul_neg]; omega⟩
  ·
   exact h2
 rcases Nat.lt_or_ge (g.length + s0.length) low.length with h2 | h2
 ·
  exfalso
  have h3 := key low.length
  rw [padd_getD, top_coef, hl _ (by omega), if_neg (by omega), pscale_getD, getD_append_right' _ _ _ (Nat.le_refl _), Nat.sub_self, getD_none' (s0 ++ [c]) _ (by simp; omega)] at h3
  simp only [List.getD_cons_zero, Int.zero_add] at h3
  exact hdvd (x := 1) (by omega) (by omega) ⟨_, h3⟩
 ·
  have h3 : g.length + s0.length = low.length := by omega
  refine ⟨h3, ?_⟩
  rw [h3, getD_append_right' _ _ _ (Nat.le_refl _), Nat.sub_self] at h1
  simp only [List.getD_cons_zero] at h1
  have h4 : c - 1 = 0 := by
   rcases Int.lt_or_gt_of_ne (a := c - 1) (b := 0) |> fun f => (Classical.em (c - 1 = 0)).imp id f with h5 | h5
   ·
    exact h5
   ·
    exfalso
    rcases h5 with h6 | h6
    ·
     omega
    ·
     exact hdvd h6 (by omega) ⟨-u.getD low.length 0, by rw [Int.mul_neg]; omega⟩
  omega
/-- no monic divisors of degrees 1 to half -/
def Irr (p : Int) (low : List Int) : Prop := ∀ g : List Int, 1 ≤ g.length → g.length < low.length / 2 + 1 → ¬ Cong p g (low ++ [1]) []
theorem descend {p : Nat} (hp : 2 ≤ p) (hpr : ∀ c : Nat, 2 ≤ c → c < p → ¬ c ∣ p) (low : List Int) (hirr : Irr p low) (a : List Int) :
  ∀ (n : Nat) (g h : List Int), g.length ≤ n → g.length < low.length → Cong p low (g ++ [1]) (pmul h a) → ∃ x, Cong p low (pmul x a) [1] := by
 intro n
 induction n with
 | zero =>
  intro g h hn _ hc
  rw [List.length_eq_zero_iff.1 (by omega : g.length = 0), List.nil_append] at hc
  exact ⟨h, hc.symm⟩
 | succ n ih =>
  intro g h hn hd hc
  by_cases hg0 : g.length = 0
  ·
   rw [List.length_eq_zero_iff.1 hg0, List.nil_append] at hc
   exact ⟨h, hc.symm⟩
  obtain ⟨s, r, e, hr⟩ := monic_div g (low ++ [1])
  rcases trim_mod hp hpr r with ⟨w, hw⟩ | ⟨r0, w, c, x, k, h1, h2, h3, h4, h5⟩
  ·
   exfalso
   by_cases hhalf : g.length < low.length / 2 + 1
   ·
    exact hirr g (by omega) hhalf ⟨s, w, fun t => by rw [e t, hw t]; simp⟩
   ·
    rcases trim_mod hp hpr s with ⟨v, hv⟩ | ⟨s0, v, c, x, k, h1, h2, h3, h4, h5⟩
    ·
     -- 1 would be 0 modulo p
     have := coef_ext (low ++ [1]) (pscale p (padd (pmul (g ++ [1]) v) w)) (fun t => by
      rw [e t, hw t, hv t, ev_pscale, ev_padd, ev_pmul, Int.mul_add, Int.mul_left_comm]) low.length
     rw [getD_append_right' _ _ _ (Nat.le_refl _), Nat.sub_self, pscale_getD] at this
     simp only [List.getD_cons_zero] at this
     have hd : (p : Int) ∣ 1 := ⟨_, this⟩
     have := Int.le_of_dvd (by omega) hd
     omega
    ·
     have hall : ∀ t, ev (low ++ [1]) t = ev (g ++ [1]) t * ev (s0 ++ [c]) t + p * ev (padd w (pscale (-1) (pmul (g ++ [1]) v))) t := fun t => by
      rw [e t, hw t, h5 t, ev_padd, ev_pscale, ev_pmul, Int.mul_add, Int.mul_add, Int.neg_mul, Int.one_mul, Int.mul_neg, Int.mul_left_comm (p : Int)]
      generalize ev (g ++ [1]) t * (p * ev v t) = A
      omega
     obtain ⟨h6, rfl⟩ := cofactor hp low g s0 _ c ⟨h2, h3⟩ hall
     exact hirr s0 (by omega) (by omega) ⟨g ++ [1], padd w (pscale (-1) (pmul (g ++ [1]) v)), fun t => by rw [hall t, Int.mul_comm (ev (g ++ [1]) t), ev_nil, Int.zero_add]⟩
  ·
   obtain ⟨y, u, hu⟩ := hc
   have hlen : r0.length + 1 ≤ g.length := by simp at h1; omega
   refine ih (pscale x r0) (pscale (-x) (pmul s h)) (by rw [pscale_length]; omega) (by rw [pscale_length]; omega)
    ⟨padd [x] (pscale (-x) (pmul s y)), padd (pscale x w) (padd (List.replicate r0.length 0 ++ [-k]) (pscale (-x) (pmul s u))), fun t => ?_⟩
   have er : ev r t = ev (low ++ [1]) t - ev (g ++ [1]) t * ev s t := by rw [e t]; omega
   rw [make_monic h4, h5 t, er, hu t]
   simp only [ev_padd, ev_pscale, ev_pmul, ev_append (List.replicate _ _), ev_replicate_zero, List.length_replicate, ev_cons, ev_nil, Int.mul_zero, Int.add_zero, Int.zero_add]
   generalize ev (low ++ [1]) t = F
   generalize t ^ r0.length = T
   generalize ev s t = S
   generalize ev h t = H
   generalize ev a t = A
   generalize ev y t = Y
   generalize ev u t = U
   generalize ev w t = W
   clear hu er e h5 h4 hirr ih
   grind
theorem inverse {p : Nat} (hp : 2 ≤ p) (hpr : ∀ c : Nat, 2 ≤ c → c < p → ¬ c ∣ p) (low : List Int) (hirr : Irr p low) (a : List Int) (ha : Red p low.length a) (h0 : ¬ ∀ c ∈ a, c = 0) : ∃ x, Cong p low (pmul x a) [1] := by
 rcases trim_ex a with h | ⟨g, c, h1, h2, h3, h4⟩
 ·
  exact absurd h h0
 ·
  have hc := ha.2 c (h3 c (by simp))
  have hl := ha.1
  obtain ⟨C, rfl⟩ := Int.eq_ofNat_of_zero_le hc.1
  obtain ⟨x, k, hk⟩ := inv_mod hpr C C (Nat.le_refl _) (by omega) (by omega)
  have hlen : g.length + 1 ≤ low.length := by simp at h2; omega
  refine descend hp hpr low hirr a (pscale x g).length (pscale x g) [x] (Nat.le_refl _) (by rw [pscale_length]; omega) ⟨[], List.replicate g.length 0 ++ [-k], fun t => ?_⟩
  rw [make_monic hk, ← h4 t, ev_pmul, ev_append (List.replicate _ _), ev_replicate_zero, List.length_replicate]
  simp only [ev_cons, ev_nil, Int.mul_zero, Int.add_zero, Int.zero_add]
  rw [Int.mul_neg, Int.mul_neg, Int.mul_comm k]
  generalize (p : Int) * (t ^ g.length * k) = A
  omega
end Cw
/- The numbers from 0 to q - 1, with the sums and products of their polynomials, are a field. -/
namespace Cw
def El (q : Nat) (x : Int) : Prop := 0 ≤ x ∧ x < (q : Int)
structure Fld (q : Nat) (add mul : Int → Int → Int) : Prop where
 q2 : 2 ≤ q
 add_in : ∀ {x y}, El q x → El q y → El q (add x y)
 mul_in : ∀ {x y}, El q x → El q y → El q (mul x y)
 add_comm : ∀ {x y}, El q x → El q y → add x y = add y x
 add_assoc : ∀ {x y z}, El q x → El q y → El q z → add (add x y) z = add x (add y z)
 add_zero : ∀ {x}, El q x → add x 0 = x
 mul_comm : ∀ {x y}, El q x → El q y → mul x y = mul y x
 mul_assoc : ∀ {x y z}, El q x → El q y → El q z → mul (mul x y) z = mul x (mul y z)
 mul_add : ∀ {x y z}, El q x → El q y → El q z → mul x (add y z) = add (mul x y) (mul x z)
 mul_one : ∀ {x}, El q x → mul x 1 = x
 neg : ∃ m, El q m ∧ add 1 m = 0
 inv : ∀ {x}, El q x → x ≠ 0 → ∃ y, El q y ∧ mul x y = 1
section
variable {p M : Nat} {mod : List Int}
theorem red_in (hp : 2 ≤ p) (hM : (lowOf M mod).length = M) (l : List Int) : El (p ^ M) (ev (redl p (lowOf M mod) l) p) := by
 have h := (redl_spec (p := (p : Int)) (by omega) (lowOf M mod) l).1
 rw [hM] at h
 have := ev_range (by omega) h
 unfold El
 rw [Int.natCast_pow]; exact this
theorem red_digs (hp : 2 ≤ p) (hM : (lowOf M mod).length = M) (l : List Int) : Cong p (lowOf M mod) (digs p M (ev (redl p (lowOf M mod) l) p)) l := by
 have h := redl_spec (p := (p : Int)) (by omega) (lowOf M mod) l
 rw [digs_ev (by omega) (by have := h.1; rw [hM] at this; exact this)]
 exact h.2
theorem red_congr (hp : 2 ≤ p) {l m : List Int} (h : Cong p (lowOf M mod) l m) : ev (redl p (lowOf M mod) l) p = ev (redl p (lowOf M mod) m) p := by
 have h1 := redl_spec (p := (p : Int)) (by omega) (lowOf M mod) m
 rw [redl_eq (by omega) h1.1 (h1.2.trans h.symm)]
theorem red_self (hp : 2 ≤ p) (hM : (lowOf M mod).length = M) {x : Int} (hx : El (p ^ M) x) {l : List Int} (h : Cong p (lowOf M mod) l (digs p M x)) : ev (redl p (lowOf M mod) l) p = x := by
 have hx2 := hx.2
 rw [Int.natCast_pow] at hx2
 rw [redl_eq (r := digs p M x) (by omega) (by rw [hM]; exact digs_red (by omega) M x) h.symm, ev_digs (by omega) M x hx.1 hx2]
theorem fadd_red {x y : Int} (hx : El (p ^ M) x) (hy : El (p ^ M) y) : fadd p M mod x y = ev (redl p (lowOf M mod) (padd (digs p M x) (digs p M y))) p := by
 have hx2 := hx.2
 have hy2 := hy.2
 rw [Int.natCast_pow] at hx2 hy2
 unfold fadd
 rw [fin_self hx.1 hx2, fin_self hy.1 hy2]
theorem fmul_red {x y : Int} (hx : El (p ^ M) x) (hy : El (p ^ M) y) : fmul p M mod x y = ev (redl p (lowOf M mod) (pmul (digs p M x) (digs p M y))) p := by
 have hx2 := hx.2
 have hy2 := hy.2
 rw [Int.natCast_pow] at hx2 hy2
 unfold fmul
 rw [fin_self hx.1 hx2, fin_self hy.1 hy2]
theorem fld (hp : 2 ≤ p) (hpr : ∀ c : Nat, 2 ≤ c → c < p → ¬ c ∣ p) (hM : (lowOf M mod).length = M) (hM1 : 1 ≤ M) (hirr : Irr p (lowOf M mod)) : Fld (p ^ M) (fadd p M mod) (fmul p M mod) := by
 have hq : ((p ^ M : Nat) : Int) = (p : Int) ^ M := Int.natCast_pow ..
 have hq2 : 2 ≤ p ^ M := by
  have : p ^ 1 ≤ p ^ M := Nat.pow_le_pow_right (by omega) hM1
  rw [Nat.pow_one] at this
  omega
 have e0 : El (p ^ M) 0 := ⟨by omega, by omega⟩
 have e1 : El (p ^ M) 1 := ⟨by omega, by omega⟩
 have ai : ∀ {x y}, El (p ^ M) x → El (p ^ M) y → El (p ^ M) (fadd p M mod x y) := fun hx hy => by rw [fadd_red hx hy]; exact red_in hp hM _
 have mi : ∀ {x y}, El (p ^ M) x → El (p ^ M) y → El (p ^ M) (fmul p M mod x y) := fun hx hy => by rw [fmul_red hx hy]; exact red_in hp hM _
 have da : ∀ {x y}, El (p ^ M) x → El (p ^ M) y → Cong p (lowOf M mod) (digs p M (fadd p M mod x y)) (padd (digs p M x) (digs p M y)) := fun hx hy => by rw [fadd_red hx hy]; exact red_digs hp hM _
 have dm : ∀ {x y}, El (p ^ M) x → El (p ^ M) y → Cong p (lowOf M mod) (digs p M (fmul p M mod x y)) (pmul (digs p M x) (digs p M y)) := fun hx hy => by rw [fmul_red hx hy]; exact red_digs hp hM _
 refine ⟨hq2, ai, mi, fun hx hy => ?_, fun hx hy hz => ?_, fun hx => ?_, fun hx hy => ?_, fun hx hy hz => ?_, fun hx hy hz => ?_, fun hx => ?_, ?_, fun {x} hx h0 => ?_⟩
 ·
  rw [fadd_red hx hy, fadd_red hy hx]
  exact red_congr hp (Cong.of_ev fun t => by rw [ev_padd, ev_padd, Int.add_comm])
 ·
  rw [fadd_red (ai hx hy) hz, fadd_red hx (ai hy hz)]
  exact red_congr hp (((da hx hy).add (Cong.refl ..)).trans ((Cong.of_ev fun t => by rw [ev_padd, ev_padd, ev_padd, ev_padd, Int.add_assoc]).trans ((Cong.refl ..).add (da hy hz)).symm))
 ·
  rw [fadd_red hx e0]
  exact red_self hp hM hx (Cong.of_ev fun t => by rw [ev_padd, ev_digs_zero, Int.add_zero])
 ·
  rw [fmul_red hx hy, fmul_red hy hx]
  exact red_congr hp (Cong.mul_comm ..)
 ·
  rw [fmul_red (mi hx hy) hz, fmul_red hx (mi hy hz)]
  exact red_congr hp (((dm hx hy).mul (Cong.refl ..)).trans ((Cong.of_ev fun t => by rw [ev_pmul, ev_pmul, ev_pmul, ev_pmul, Int.mul_assoc]).trans ((Cong.refl ..).mul (dm hy hz)).symm))
 ·
  rw [fmul_red hx (ai hy hz), fadd_red (mi hx hy) (mi hx hz)]
  exact red_congr hp (((Cong.refl ..).mul (da hy hz)).trans ((Cong.of_ev fun t => by rw [ev_pmul, ev_padd, ev_padd, ev_pmul, ev_pmul, Int.mul_add]).trans ((dm hx hy).add (dm hx hz)).symm))
 ·
  exact fmul_one (by omega) hM hM1 hx.1 (by have := hx.2; omega)
 ·
  have hm := red_in hp hM [-1]
  refine ⟨_, hm, ?_⟩
  rw [fadd_red e1 hm]
  refine red_self hp hM e0 (((Cong.refl ..).add (red_digs hp hM _)).trans (Cong.of_ev fun t => ?_))
  obtain ⟨n, rfl⟩ : ∃ n, M = n + 1 := ⟨M - 1, by omega⟩
  rw [ev_padd, ev_digs_zero, ev_digs_one (by omega)]; simp
 ·
  have hx2 := hx.2
  obtain ⟨z, hz⟩ := inverse hp hpr (lowOf M mod) hirr (digs p M x) (by rw [hM]; exact digs_red (by omega) M x) (fun h => h0 (by
   rw [← ev_digs (p := (p : Int)) (by omega) M x hx.1 (by omega)]
   exact ev_zeros _ h _))
  have hy := red_in hp hM z
  refine ⟨_, hy, ?_⟩
  rw [fmul_red hx hy]
  refine red_self hp hM e1 (((Cong.refl ..).mul (red_digs hp hM z)).trans ((Cong.mul_comm ..).trans (hz.trans (Cong.of_ev fun t => ?_))))
  obtain ⟨n, rfl⟩ : ∃ n, M = n + 1 := ⟨M - 1, by omega⟩
  rw [ev_digs_one (by omega)]; simp
end
namespace Fld
variable {q : Nat} {add mul : Int → Int → Int} (h : Fld q add mul)
include h
theorem el0 : El q 0 := ⟨by omega, by have := h.q2; omega⟩
theorem el1 : El q 1 := ⟨by omega, by have := h.q2; omega⟩
theorem zero_add {x : Int} (hx : El q x) : add 0 x = x := by rw [h.add_comm h.el0 hx, h.add_zero hx]
theorem idem {a : Int} (ha : El q a) (e : add a a = a) : a = 0 := by
 by_cases h0 : a = 0
 ·
  exact h0
 ·
  obtain ⟨y, hy, ey⟩ := h.inv ha h0
  obtain ⟨m, hm, em⟩ := h.neg
  have d1 := h.mul_add hy ha ha
  rw [e, h.mul_comm hy ha, ey] at d1
  have d2 := h.add_assoc h.el1 h.el1 hm
  rw [← d1, em, h.add_zero h.el1] at d2
  omega
theorem mul_zero {x : Int} (hx : El q x) : mul x 0 = 0 := by
 have e2 := h.mul_add hx h.el0 h.el0
 rw [h.add_zero h.el0] at e2
 exact h.idem (h.mul_in hx h.el0) e2.symm
theorem zero_mul {x : Int} (hx : El q x) : mul 0 x = 0 := by rw [h.mul_comm h.el0 hx, h.mul_zero hx]
theorem one_mul {x : Int} (hx : El q x) : mul 1 x = x := by rw [h.mul_comm h.el1 hx, h.mul_one hx]
/-- the negative of a number -/
theorem neg_ex : ∃ m, El q m ∧ ∀ {x}, El q x → add x (mul m x) = 0 := by
 obtain ⟨m, hm, e⟩ := h.neg
 refine ⟨m, hm, fun {x} hx => ?_⟩
 have e2 := h.mul_add hx h.el1 hm
 rw [e, h.mul_one hx, h.mul_comm hx hm, h.mul_zero hx] at e2
 exact e2.symm
theorem add_cancel {x y z : Int} (hx : El q x) (hy : El q y) (hz : El q z) (e : add x z = add y z) : x = y := by
 obtain ⟨m, hm, hneg⟩ := h.neg_ex
 have e1 := h.add_assoc hx hz (h.mul_in hm hz)
 have e2 := h.add_assoc hy hz (h.mul_in hm hz)
 rw [hneg hz, h.add_zero hx] at e1
 rw [hneg hz, h.add_zero hy] at e2
 rw [← e1, ← e2, e]
/-- no zero divisors -/
theorem mul_eq_zero {x y : Int} (hx : El q x) (hy : El q y) (e : mul x y = 0) (h0 : y ≠ 0) : x = 0 := by
 obtain ⟨z, hz, ez⟩ := h.inv hy h0
 have e1 := h.mul_assoc hx hy hz
 rw [ez, h.mul_one hx, e, h.zero_mul hz] at e1
 exact e1.symm
/-- x + b c = 0 has a solution b, for c not 0 -/
theorem solve {x c : Int} (hx : El q x) (hc : El q c) (h0 : c ≠ 0) : ∃ b, El q b ∧ add x (mul b c) = 0 := by
 obtain ⟨z, hz, ez⟩ := h.inv hc h0
 obtain ⟨m, hm, hneg⟩ := h.neg_ex
 have hmx := h.mul_in hm hx
 refine ⟨mul (mul m x) z, h.mul_in hmx hz, ?_⟩
 rw [h.mul_assoc hmx hz hc, h.mul_comm hz hc, ez, h.mul_one hmx, hneg hx]
end Fld
end Cw
/- The theorem of Griesmer, for lists of words that are closed under linear combinations. -/
namespace Cw
/-- the length that a code of dimension k and distance d has at least -/
def grs (q : Nat) : Nat → Nat → Nat
 | 0, _ => 0
 | k + 1, d => d + grs q k ((d + q - 1) / q)
/-- x + b c -/
def lin (add mul : Int → Int → Int) (b : Int) (x c : List Int) : List Int := List.zipWith (fun u v => add u (mul b v)) x c
structure Lin (q : Nat) (add mul : Int → Int → Int) (n : Nat) (C : List (List Int)) : Prop where
 nodup : C.Nodup
 isw : ∀ w ∈ C, IsW q n w
 zero : List.replicate n 0 ∈ C
 comb : ∀ x ∈ C, ∀ c ∈ C, ∀ b, El q b → lin add mul b x c ∈ C
theorem lin_getD {add mul : Int → Int → Int} {b : Int} {x c : List Int} {n : Nat} (hx : x.length = n) (hc : c.length = n) {i : Nat} (hi : i < n) : (lin add mul b x c).getD i 0 = add (x.getD i 0) (mul b (c.getD i 0)) := by
 unfold lin
 rw [List.getD_eq_getElem?_getD, List.getElem?_zipWith, List.getD_eq_getElem?_getD, List.getD_eq_getElem?_getD, List.getElem?_eq_getElem (by omega), List.getElem?_eq_getElem (by omega)]; rfl
theorem lin_length {add mul : Int → Int → Int} {b : Int} {x c : List Int} {n : Nat} (hx : x.length = n) (hc : c.length = n) : (lin add mul b x c).length = n := by
 unfold lin
 rw [List.length_zipWith]; omega
theorem IsW.el {q n : Nat} {w : List Int} (h : IsW q n w) {i : Nat} (hi : i < n) : El q (w.getD i 0) := by
 rw [List.getD_eq_getElem?_getD, List.getElem?_eq_getElem (by rw [h.1]; exact hi)]
 exact h.2 _ (List.getElem_mem _)
theorem word_ext {a b : List Int} {n : Nat} (ha : a.length = n) (hb : b.length = n) (h : ∀ i, i < n → a.getD i 0 = b.getD i 0) : a = b :=
 ext_getD (ha.trans hb.symm) (fun i hi => h i (by omega))
theorem zeros_getD (n i : Nat) : (List.replicate n (0 : Int)).getD i 0 = 0 := by
 rw [List.getD_eq_getElem?_getD, List.getElem?_replicate]; split <;> rfl
/-- distinct members of a list -/
theorem nodup_le {α : Type} [DecidableEq α] : ∀ (l m : List α), l.Nodup → (∀ x ∈ l, x ∈ m) → l.length ≤ m.length
 | [], _, _, _ => by simp
 | a :: l, m, h, hs => by
  have hn := List.nodup_cons.1 h
  have ih := nodup_le l (m.erase a) hn.2 (fun x hx => (List.mem_erase_of_ne (fun e => hn.1 (by rw [← e]; exact hx))).2 (hs x (by simp [hx])))
  have hm := List.length_erase_of_mem (hs a (by simp))
  have hp : 0 < m.length := List.length_pos_of_mem (hs a (by simp))
  rw [List.length_cons]; omega
/-- nonzero places among those of a list -/
def wt (I : List Nat) (x : List Int) : Nat := sm I (fun i => if x.getD i 0 = 0 then 0 else 1)
theorem sm_filter {α : Type} (l : List α) (p : α → Bool) (f : α → Nat) : sm (l.filter p) f = sm l (fun x => if p x then f x else 0) := by
 induction l with
 | nil => rfl
 | cons a l ih => rw [List.filter_cons, sm_cons, ← ih]; split <;> simp
theorem sm_ge {α : Type} {l : List α} {a : α} (h : a ∈ l) (f : α → Nat) : f a ≤ sm l f := by
 induction l with
 | nil => simp at h
 | cons b l ih =>
  rw [sm_cons]
  rcases List.mem_cons.1 h with h1 | h1
  ·
   rw [h1]; omega
  ·
   have := ih h1; omega
theorem letters_of_el {q : Nat} {a : Int} (h : El q a) : a ∈ letters q := by
 obtain ⟨n, rfl⟩ := Int.eq_ofNat_of_zero_le h.1
 exact List.mem_map.2 ⟨n, List.mem_range.2 (by have := h.2; omega), rfl⟩
theorem el_of_letters {q : Nat} {a : Int} (h : a ∈ letters q) : El q a := by
 obtain ⟨n, hn, rfl⟩ := List.mem_map.1 h
 exact ⟨by omega, by have := List.mem_range.1 hn; omega⟩
section
variable {q n : Nat} {add mul : Int → Int → Int} (h : Fld q add mul)
include h
theorem Lin.sub {C : List (List Int)} (hC : Lin q add mul n C) {i : Nat} (hi : i < n) : Lin q add mul n (C.filter (fun x => decide (x.getD i 0 = 0))) := by
 refine ⟨hC.nodup.filter _, fun w hw => hC.isw w (List.mem_filter.1 hw).1, List.mem_filter.2 ⟨hC.zero, by rw [zeros_getD]; rfl⟩, fun x hx c hc b hb => ?_⟩
 obtain ⟨x1, x2⟩ := List.mem_filter.1 hx
 obtain ⟨c1, c2⟩ := List.mem_filter.1 hc
 refine List.mem_filter.2 ⟨hC.comb x x1 c c1 b hb, ?_⟩
 rw [lin_getD (hC.isw x x1).1 (hC.isw c c1).1 hi, of_decide_eq_true x2, of_decide_eq_true c2, h.mul_zero hb, h.add_zero h.el0]; rfl
/-- a subcode that is 0 in one place has at least one of q words -/
theorem Lin.sub_size {C : List (List Int)} (hC : Lin q add mul n C) {i : Nat} (hi : i < n) : C.length ≤ q * (C.filter (fun x => decide (x.getD i 0 = 0))).length := by
 obtain ⟨m, hm, hneg⟩ := h.neg_ex
 have h1 : C.length ≤ sm (letters q) (fun a => sm C (fun x => if decide (x.getD i 0 = a) then 1 else 0)) := by
  rw [sm_comm]
  have : C.length = sm C (fun _ => 1) := by rw [sm_const, Nat.mul_one]
  rw [this]
  refine sm_le fun x hx => ?_
  have := sm_ge (letters_of_el ((hC.isw x hx).el hi)) (fun a => if decide (x.getD i 0 = a) then 1 else 0)
  simpa using this
 have h2 : ∀ a ∈ letters q, sm C (fun x => if decide (x.getD i 0 = a) then 1 else 0) ≤ (C.filter (fun x => decide (x.getD i 0 = 0))).length := by
  intro a ha
  rw [sm_length_filter]
  rcases hf : C.filter (fun x => decide (x.getD i 0 = a)) with _ | ⟨y, l⟩
  ·
   rw [hf]; exact Nat.zero_le _
  ·
   obtain ⟨y1, y2⟩ := List.mem_filter.1 (show y ∈ C.filter (fun x => decide (x.getD i 0 = a)) by rw [hf]; simp)
   have hy := hC.isw y y1
   have y3 : y.getD i 0 = a := of_decide_eq_true y2
   have inj : ∀ x ∈ C.filter (fun x => decide (x.getD i 0 = a)), ∀ x' ∈ C.filter (fun x => decide (x.getD i 0 = a)), lin add mul m x y = lin add mul m x' y → x = x' := by
    intro x hx x' hx' e
    have w1 := hC.isw x (List.mem_filter.1 hx).1
    have w2 := hC.isw x' (List.mem_filter.1 hx').1
    refine word_ext w1.1 w2.1 fun j hj => ?_
    have e2 : (lin add mul m x y).getD j 0 = (lin add mul m x' y).getD j 0 := by rw [e]
    rw [lin_getD w1.1 hy.1 hj, lin_getD w2.1 hy.1 hj] at e2
    exact h.add_cancel (w1.el hj) (w2.el hj) (h.mul_in hm (hy.el hj)) e2
   have hnd : ((C.filter (fun x => decide (x.getD i 0 = a))).map (fun x => lin add mul m x y)).Nodup := by
    have hn := hC.nodup.filter (fun x => decide (x.getD i 0 = a))
    generalize C.filter (fun x => decide (x.getD i 0 = a)) = L at hn inj
    clear hf
    induction L with
    | nil => simp
    | cons u L ih =>
     have hu := List.nodup_cons.1 hn
     rw [List.map_cons]
     refine List.nodup_cons.2 ⟨fun hmem => ?_, ih hu.2 (fun x hx x' hx' e => inj x (by simp [hx]) x' (by simp [hx']) e)⟩
     obtain ⟨v, hv, ev⟩ := List.mem_map.1 hmem
     have := inj v (by simp [hv]) u (by simp) ev
     exact hu.1 (this ▸ hv)
   have := nodup_le _ (C.filter (fun x => decide (x.getD i 0 = 0))) hnd (fun z hz => by
    obtain ⟨x, hx, rfl⟩ := List.mem_map.1 hz
    obtain ⟨x1, x2⟩ := List.mem_filter.1 hx
    refine List.mem_filter.2 ⟨hC.comb x x1 y y1 m hm, ?_⟩
    rw [lin_getD (hC.isw x x1).1 hy.1 hi, of_decide_eq_true x2, y3, hneg (el_of_letters ha)]; rfl)
   rw [List.length_map] at this
   exact this
 have h3 := sm_le h2
 rw [sm_const, letters_length] at h3
 omega
omit h in
/-- a nonzero word of least weight -/
theorem least_word {C : List (List Int)} (hC : Lin q add mul n C) (I : List Nat) (h2 : 1 < C.length) : ∃ c ∈ C, c ≠ List.replicate n 0 ∧ ∀ x ∈ C, x ≠ List.replicate n 0 → wt I c ≤ wt I x := by
 have hex : ∃ w, ∃ c ∈ C, c ≠ List.replicate n 0 ∧ wt I c = w := by
  by_cases hall : ∀ c ∈ C, c = List.replicate n 0
  ·
   have := nodup_le C [List.replicate n 0] hC.nodup (fun x hx => by rw [hall x hx]; simp)
   simp at this; omega
  ·
   obtain ⟨c, hc⟩ := Classical.not_forall.1 hall
   obtain ⟨h3, h4⟩ := Classical.not_imp.1 hc
   exact ⟨_, c, h3, h4, rfl⟩
 obtain ⟨w0, hw0⟩ := hex
 have key : ∀ w, (∃ c ∈ C, c ≠ List.replicate n 0 ∧ wt I c = w) → ∃ c ∈ C, c ≠ List.replicate n 0 ∧ ∀ x ∈ C, x ≠ List.replicate n 0 → wt I c ≤ wt I x := by
  intro w
  induction w using Nat.strongRecOn with
  | ind w ih =>
   rintro ⟨c, h3, h4, h5⟩
   by_cases hall : ∀ x ∈ C, x ≠ List.replicate n 0 → wt I c ≤ wt I x
   ·
    exact ⟨c, h3, h4, hall⟩
   ·
    obtain ⟨x, hx⟩ := Classical.not_forall.1 hall
    obtain ⟨h6, hx⟩ := Classical.not_imp.1 hx
    obtain ⟨h7, hx⟩ := Classical.not_imp.1 hx
    exact ih (wt I x) (by omega) ⟨x, h6, h7, rfl⟩
 exact key w0 hw0
theorem griesmer : ∀ (k d : Nat) (C : List (List Int)) (I : List Nat), 1 ≤ d → Lin q add mul n C → (∀ i ∈ I, i < n) → (∀ x ∈ C, x ≠ List.replicate n 0 → d ≤ wt I x) → (k = 0 ∨ q ^ (k - 1) < C.length) → grs q k d ≤ I.length := by
 intro k
 have hq := h.q2
 induction k with
 | zero => intro d C I _ _ _ _ _; exact Nat.zero_le _
 | succ k ih =>
  intro d C I hd hC hI hw hk
  have hk' : q ^ k < C.length := by
   rcases hk with h0 | h0
   ·
    omega
   ·
    exact h0
  have hpos : 1 ≤ q ^ k := Nat.pow_pos (by omega)
  obtain ⟨c, c1, c2, c3⟩ := least_word hC I (by omega)
  have cw := hC.isw c c1
  have hdc := hw c c1 c2
  obtain ⟨i0, j1, j2⟩ : ∃ i ∈ I, c.getD i 0 ≠ 0 := by
   by_cases hall : ∀ i ∈ I, c.getD i 0 = 0
   ·
    have : wt I c = 0 := sm_zero fun i hi => by rw [if_pos (hall i hi)]
    omega
   ·
    obtain ⟨i, hi⟩ := Classical.not_forall.1 hall
    obtain ⟨h6, h7⟩ := Classical.not_imp.1 hi
    exact ⟨i, h6, h7⟩
  have hi0 := hI i0 j1
  have hsize := Lin.sub_size h hC hi0
  have hdq : 1 ≤ (d + q - 1) / q := by rw [Nat.le_div_iff_mul_le (by omega)]; omega
  have hlen : I.length = wt I c + (I.filter (fun i => decide (c.getD i 0 = 0))).length := by
   rw [← sm_length_filter, wt, ← sm_add]
   have : I.length = sm I (fun _ => 1) := by rw [sm_const, Nat.mul_one]
   rw [this]
   refine sm_congr fun i _ => ?_
   by_cases hc : c.getD i 0 = 0
   ·
    rw [if_pos hc, if_pos (decide_eq_true hc)]
   ·
    rw [if_neg hc, if_neg (by simpa using hc)]
  have hres := ih ((d + q - 1) / q) (C.filter (fun x => decide (x.getD i0 0 = 0))) (I.filter (fun i => decide (c.getD i 0 = 0))) hdq (Lin.sub h hC hi0) (fun i hi => hI i (List.mem_filter.1 hi).1) ?_ ?_
  ·
   show d + grs q k ((d + q - 1) / q) ≤ I.length
   omega
  ·
   intro x hx hx0
   obtain ⟨x1, x2⟩ := List.mem_filter.1 hx
   have x3 : x.getD i0 0 = 0 := of_decide_eq_true x2
   have xw := hC.isw x x1
   -- for some b, x + b c vanishes in many places of c
   have hsum : wt I c ≤ sm (letters q) (fun b => sm I (fun i => if c.getD i 0 ≠ 0 ∧ add (x.getD i 0) (mul b (c.getD i 0)) = 0 then 1 else 0)) := by
    rw [sm_comm, wt]
    refine sm_le fun i hi => ?_
    by_cases hc : c.getD i 0 = 0
    ·
     rw [if_pos hc]; exact Nat.zero_le _
    ·
     obtain ⟨b, hb, eb⟩ := h.solve (xw.el (hI i hi)) (cw.el (hI i hi)) hc
     have := sm_ge (letters_of_el hb) (fun b => if c.getD i 0 ≠ 0 ∧ add (x.getD i 0) (mul b (c.getD i 0)) = 0 then 1 else 0)
     simp only [if_pos (⟨hc, eb⟩ : c.getD i 0 ≠ 0 ∧ add (x.getD i 0) (mul b (c.getD i 0)) = 0)] at this
     rw [if_neg hc]; exact this
   obtain ⟨b, hb, hbc⟩ : ∃ b ∈ letters q, wt I c ≤ q * sm I (fun i => if c.getD i 0 ≠ 0 ∧ add (x.getD i 0) (mul b (c.getD i 0)) = 0 then 1 else 0) := by
    by_cases hall : ∀ b ∈ letters q, q * sm I (fun i => if c.getD i 0 ≠ 0 ∧ add (x.getD i 0) (mul b (c.getD i 0)) = 0 then 1 else 0) ≤ wt I c - 1
    ·
     exfalso
     have h5 := sm_le hall
     rw [sm_mul, sm_const, letters_length] at h5
     have h6 := Nat.le_of_mul_le_mul_left h5 (by omega)
     omega
    ·
     obtain ⟨b, hb⟩ := Classical.not_forall.1 hall
     obtain ⟨h6, h7⟩ := Classical.not_imp.1 hb
     exact ⟨b, h6, by omega⟩
   have hbe := el_of_letters hb
   have hy := hC.comb x x1 c c1 b hbe
   have hyl : (lin add mul b x c).length = n := (hC.isw _ hy).1
   have hy0 : lin add mul b x c ≠ List.replicate n 0 := by
    intro e
    have e1 : (lin add mul b x c).getD i0 0 = 0 := by rw [e, zeros_getD]
    rw [lin_getD xw.1 cw.1 hi0, x3, h.zero_add (h.mul_in hbe (cw.el hi0))] at e1
    have hb0 := h.mul_eq_zero hbe (cw.el hi0) e1 j2
    refine hx0 (word_ext xw.1 (by simp) fun i hi => ?_)
    have e2 : (lin add mul b x c).getD i 0 = 0 := by rw [e, zeros_getD]
    rw [lin_getD xw.1 cw.1 hi, hb0, h.zero_mul (cw.el hi), h.add_zero (xw.el hi)] at e2
    rw [e2, zeros_getD]
   have hyw := c3 _ hy hy0
   have hcount : wt I (lin add mul b x c) + sm I (fun i => if c.getD i 0 ≠ 0 ∧ add (x.getD i 0) (mul b (c.getD i 0)) = 0 then 1 else 0) ≤ wt (I.filter (fun i => decide (c.getD i 0 = 0))) x + wt I c := by
    simp only [wt]
    rw [sm_filter, ← sm_add, ← sm_add]
    refine sm_le fun i hi => ?_
    rw [lin_getD xw.1 cw.1 (hI i hi)]
    by_cases hc : c.getD i 0 = 0
    ·
     rw [if_pos (decide_eq_true hc), if_pos hc, hc, h.mul_zero hbe, h.add_zero (xw.el (hI i hi))]
     simp
    ·
     simp only [hc, decide_false, ne_eq, not_false_eq_true, true_and, if_false]
     split <;> simp
   have h8 : (d + q - 1) / q < sm I (fun i => if c.getD i 0 ≠ 0 ∧ add (x.getD i 0) (mul b (c.getD i 0)) = 0 then 1 else 0) + 1 := by
    rw [Nat.div_lt_iff_lt_mul (by omega), Nat.add_mul, Nat.one_mul, Nat.mul_comm]
    omega
   omega
  ·
   by_cases hk0 : k = 0
   ·
    exact .inl hk0
   ·
    right
    have e : q ^ k = q * q ^ (k - 1) := by rw [← Nat.pow_succ', Nat.succ_eq_add_one, Nat.sub_add_cancel (by omega)]
    rw [e] at hk'
    exact Nat.lt_of_mul_lt_mul_left (Nat.lt_of_lt_of_le hk' hsize)
end
theorem wt_dist : ∀ (x : List Int), wt (List.range x.length) x = dist x (List.replicate x.length 0)
 | [] => rfl
 | a :: x => by
  have ih := wt_dist x
  rw [List.length_cons, List.range_succ_eq_map, wt, sm_cons, sm_map, List.replicate_succ, dist_cons, ← ih]
  rfl
end Cw
/- What the reference's list of all words that rows generate is: closed under linear combinations, without doubles. -/
namespace Cw
def spanStep (q : Nat) (add mul : Int → Int → Int) (C : List (List Int)) (r : List Int) : List (List Int) :=
 if r ∈ C then C else (letters q).flatMap (fun a => C.map (fun w => lin add mul a w r))
section
variable {q n : Nat} {add mul : Int → Int → Int} (h : Fld q add mul)
include h
theorem Lin.start : Lin q add mul n [List.replicate n 0] := by
 refine ⟨by simp, fun w hw => ?_, by simp, fun x hx c hc b hb => ?_⟩
 ·
  rw [List.mem_singleton.1 hw]
  exact ⟨by simp, fun x hx => by rw [List.eq_of_mem_replicate hx]; have := h.q2; omega⟩
 ·
  rw [List.mem_singleton.1 hx, List.mem_singleton.1 hc, List.mem_singleton]
  refine word_ext (n := n) (lin_length (by simp) (by simp)) (by simp) fun i hi => ?_
  rw [lin_getD (by simp) (by simp) hi, zeros_getD, h.mul_zero hb, h.add_zero h.el0]
theorem lin_isW {x c : List Int} {b : Int} (hx : IsW q n x) (hc : IsW q n c) (hb : El q b) : IsW q n (lin add mul b x c) := by
 refine ⟨lin_length hx.1 hc.1, fun v hv => ?_⟩
 obtain ⟨i, hi, rfl⟩ := List.mem_iff_getElem.1 hv
 rw [lin_length hx.1 hc.1] at hi
 have e := lin_getD (add := add) (mul := mul) (b := b) hx.1 hc.1 hi
 rw [List.getD_eq_getElem?_getD, List.getElem?_eq_getElem (by rw [lin_length hx.1 hc.1]; exact hi)] at e
 have e2 : (lin add mul b x c)[i]'(by rw [lin_length hx.1 hc.1]; exact hi) = add (x.getD i 0) (mul b (c.getD i 0)) := e
 rw [e2]
 exact h.add_in (hx.el hi) (h.mul_in hb (hc.el hi))
/-- (w + a r) + b (v + c r) = (w + b v) + (a + b c) r -/
theorem lin_law {w v r a b c : Int} (hw : El q w) (hv : El q v) (hr : El q r) (ha : El q a) (hb : El q b) (hc : El q c) :
  add (add w (mul a r)) (mul b (add v (mul c r))) = add (add w (mul b v)) (mul (add a (mul b c)) r) := by
 have har := h.mul_in ha hr
 have hbv := h.mul_in hb hv
 have hcr := h.mul_in hc hr
 have hbcr := h.mul_in hb hcr
 have hbc := h.mul_in hb hc
 rw [h.mul_add hb hv hcr, h.mul_comm (h.add_in ha hbc) hr, h.mul_add hr ha hbc, h.mul_comm hr ha, h.mul_comm hr hbc, h.mul_assoc hb hc hr,
  h.add_assoc hw har (h.add_in hbv hbcr), h.add_assoc hw hbv (h.add_in har hbcr), ← h.add_assoc har hbv hbcr, h.add_comm har hbv, h.add_assoc hbv har hbcr]
theorem lin_in_span {C : List (List Int)} (hC : Lin q add mul n C) {r : List Int} (hr : IsW q n r) {w v : List Int} (hw : w ∈ C) (hv : v ∈ C) {a b : Int} (ha : El q a) (hb : El q b) (hab : a ≠ b)
  (e : lin add mul a w r = lin add mul b v r) : r ∈ C := by
 obtain ⟨m, hm, hneg⟩ := h.neg_ex
 have hmb := h.mul_in hm hb
 have hE := h.add_in ha hmb
 have hE0 : add a (mul m b) ≠ 0 := fun h0 => hab (h.add_cancel ha hb hmb (h0.trans (hneg hb).symm))
 obtain ⟨z, hz, ez⟩ := h.inv hE hE0
 have ww := hC.isw w hw
 have wv := hC.isw v hv
 have hu := hC.comb w hw v hv m hm
 have wu := hC.isw _ hu
 have hmem := hC.comb _ hC.zero _ hu (mul z m) (h.mul_in hz hm)
 have : lin add mul (mul z m) (List.replicate n 0) (lin add mul m w v) = r := by
  refine word_ext (lin_length (by simp) wu.1) hr.1 fun i hi => ?_
  rw [lin_getD (by simp) wu.1 hi, zeros_getD]
  have hui := wu.el hi
  rw [h.zero_add (h.mul_in (h.mul_in hz hm) hui)]
  have e1 : (lin add mul a w r).getD i 0 = (lin add mul b v r).getD i 0 := by rw [e]
  rw [lin_getD ww.1 hr.1 hi, lin_getD wv.1 hr.1 hi] at e1
  have hri := hr.el hi
  have e2 := lin_law h (ww.el hi) (wv.el hi) hri ha hm hb
  rw [e1, hneg (h.add_in (wv.el hi) (h.mul_in hb hri)), ← lin_getD (add := add) (mul := mul) (b := m) ww.1 wv.1 hi] at e2
  have e3 := hneg hui
  have hEr := h.mul_in hE hri
  have hmu := h.mul_in hm hui
  have e4 : mul m ((lin add mul m w v).getD i 0) = mul (add a (mul m b)) (r.getD i 0) := by
   refine h.add_cancel hmu hEr hui ?_
   rw [h.add_comm hmu hui, h.add_comm hEr hui, e3, ← e2]
  rw [h.mul_assoc hz hm hui, e4, ← h.mul_assoc hz hE hri, h.mul_comm hz hE, ez, h.one_mul hri]
 rw [← this]; exact hmem
theorem Lin.step {C : List (List Int)} (hC : Lin q add mul n C) {r : List Int} (hr : IsW q n r) : Lin q add mul n (spanStep q add mul C r) := by
 unfold spanStep
 by_cases hm : r ∈ C
 ·
  rw [if_pos hm]; exact hC
 rw [if_neg hm]
 refine ⟨?_, fun x hx => ?_, ?_, fun x hx y hy b hb => ?_⟩
 ·
  unfold List.Nodup
  rw [List.pairwise_flatMap]
  refine ⟨fun a ha => ?_, ?_⟩
  ·
   rw [List.pairwise_map]
   refine List.Pairwise.imp_of_mem (fun {w v} hw hv hne e => hne ?_) hC.nodup
   have ww := hC.isw w hw
   have wv := hC.isw v hv
   refine word_ext ww.1 wv.1 fun i hi => ?_
   have e1 : (lin add mul a w r).getD i 0 = (lin add mul a v r).getD i 0 := by rw [e]
   rw [lin_getD ww.1 hr.1 hi, lin_getD wv.1 hr.1 hi] at e1
   exact h.add_cancel (ww.el hi) (wv.el hi) (h.mul_in (el_of_letters ha) (hr.el hi)) e1
  ·
   have hnd : (letters q).Nodup := by
    unfold letters List.Nodup
    rw [List.pairwise_map]
    exact List.Pairwise.imp (fun hne e => hne (by omega)) List.nodup_range
   refine List.Pairwise.imp_of_mem (fun {a b} ha hb hne x hx y hy e => ?_) hnd
   obtain ⟨w, hw, rfl⟩ := List.mem_map.1 hx
   obtain ⟨v, hv, rfl⟩ := List.mem_map.1 hy
   exact hm (lin_in_span h hC hr hw hv (el_of_letters ha) (el_of_letters hb) hne e)
 ·
  obtain ⟨a, ha, hx⟩ := List.mem_flatMap.1 hx
  obtain ⟨w, hw, rfl⟩ := List.mem_map.1 hx
  exact lin_isW h (hC.isw w hw) hr (el_of_letters ha)
 ·
  refine List.mem_flatMap.2 ⟨0, letters_of_el h.el0, List.mem_map.2 ⟨_, hC.zero, ?_⟩⟩
  refine word_ext (n := n) (lin_length (by simp) hr.1) (by simp) fun i hi => ?_
  rw [lin_getD (by simp) hr.1 hi, h.zero_mul (hr.el hi), zeros_getD, h.add_zero h.el0]
 ·
  obtain ⟨a, ha, hx⟩ := List.mem_flatMap.1 hx
  obtain ⟨w, hw, rfl⟩ := List.mem_map.1 hx
  obtain ⟨c, hc, hy⟩ := List.mem_flatMap.1 hy
  obtain ⟨v, hv, rfl⟩ := List.mem_map.1 hy
  have ha := el_of_letters ha
  have hc := el_of_letters hc
  have ww := hC.isw w hw
  have wv := hC.isw v hv
  have hac := h.add_in ha (h.mul_in hb hc)
  refine List.mem_flatMap.2 ⟨add a (mul b c), letters_of_el hac, List.mem_map.2 ⟨lin add mul b w v, hC.comb w hw v hv b hb, ?_⟩⟩
  have l1 := lin_length (add := add) (mul := mul) (b := a) ww.1 hr.1
  have l2 := lin_length (add := add) (mul := mul) (b := c) wv.1 hr.1
  have l3 := lin_length (add := add) (mul := mul) (b := b) ww.1 wv.1
  refine word_ext (lin_length l3 hr.1) (lin_length l1 l2) fun i hi => ?_
  rw [lin_getD l3 hr.1 hi, lin_getD ww.1 wv.1 hi, lin_getD l1 l2 hi, lin_getD ww.1 hr.1 hi, lin_getD wv.1 hr.1 hi]
  exact (lin_law h (ww.el hi) (wv.el hi) (hr.el hi) ha hb hc).symm
end
theorem spanStep_length (q : Nat) (add mul : Int → Int → Int) (C : List (List Int)) (r : List Int) (hm : ¬ r ∈ C) : (spanStep q add mul C r).length = q * C.length := by
 unfold spanStep
 rw [if_neg hm]
 simp only [List.length_flatMap, List.length_map]
 have : (List.map (fun _ => C.length) (letters q)).sum = sm (letters q) (fun _ => C.length) := rfl
 rw [this, sm_const, letters_length]
end Cw
