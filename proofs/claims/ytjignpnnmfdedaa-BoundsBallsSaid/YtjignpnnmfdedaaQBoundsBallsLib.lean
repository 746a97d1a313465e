/- Integer polynomials as lists of coefficients, by their values. -/

namespace Cw
/-- the value at t of the polynomial with these coefficients, constant first -/
def ev : List Int → Int → Int
  | [], _ => 0
  | c :: cs, t => c + t * ev cs t
def padd : List Int → List Int → List Int
  | [], b => b
  | x :: a, [] => x :: a
  | x :: a, y :: b => (x + y) :: padd a b
def pscale (c : Int) (a : List Int) : List Int := a.map (fun x => c * x)
def pmul : List Int → List Int → List Int
  | [], _ => []
  | x :: a, b => padd (pscale x b) (0 :: pmul a b)
@[simp] theorem ev_nil (t : Int) : ev [] t = 0 := rfl
@[simp] theorem ev_cons (c : Int) (cs : List Int) (t : Int) : ev (c :: cs) t = c + t * ev cs t := rfl
theorem ev_padd (a b : List Int) (t : Int) : ev (padd a b) t = ev a t + ev b t := by
  induction a generalizing b with
  | nil => simp [padd]
  | cons x a ih =>
    cases b with
    | nil => simp [padd]
    | cons y b => simp only [padd, ev_cons, ih, Int.mul_add]; omega
theorem ev_pscale (c : Int) (a : List Int) (t : Int) : ev (pscale c a) t = c * ev a t := by
  induction a with
  | nil => simp [pscale]
  | cons x a ih =>
    have ih' : ev (List.map (fun x => c * x) a) t = c * ev a t := ih
    simp only [pscale, List.map_cons, ev_cons, ih', Int.mul_add]
    rw [← Int.mul_assoc, ← Int.mul_assoc, Int.mul_comm t c]
theorem ev_pmul (a b : List Int) (t : Int) : ev (pmul a b) t = ev a t * ev b t := by
  induction a with
  | nil => simp [pmul]
  | cons x a ih =>
    simp only [pmul, ev_padd, ev_pscale, ev_cons, ih, Int.zero_add, Int.add_mul, Int.mul_assoc]
theorem ev_append (a b : List Int) (t : Int) : ev (a ++ b) t = ev a t + t ^ a.length * ev b t := by
  induction a with
  | nil => simp
  | cons x a ih =>
    simp only [List.cons_append, ev_cons, ih, List.length_cons, Int.pow_succ, Int.mul_add]
    rw [← Int.mul_assoc, Int.mul_comm t (t ^ a.length)]; omega
theorem ev_replicate_zero (n : Nat) (t : Int) : ev (List.replicate n 0) t = 0 := by
  induction n with
  | zero => rfl
  | succ n ih => simp [List.replicate_succ, ih]
theorem ev_zeros (a : List Int) (h : ∀ c ∈ a, c = 0) (t : Int) : ev a t = 0 := by
  induction a with
  | nil => rfl
  | cons x a ih =>
    rw [ev_cons, h x (by simp), ih (fun c hc => h c (by simp [hc]))]; simp
theorem ev_large_zero (a : List Int) : ∀ N : Int, (∀ t : Int, N ≤ t → ev a t = 0) → ∀ c ∈ a, c = 0 := by
  induction a with
  | nil => intro N _ c hc; simp at hc
  | cons x a ih =>
    intro N h
    have hx : x = 0 := by
      have h1 := h (max N 0 + x.natAbs + 1) (by omega)
      rw [ev_cons] at h1
      have hd : (max N 0 + x.natAbs + 1) ∣ x := ⟨- ev a (max N 0 + x.natAbs + 1), by rw [Int.mul_neg]; omega⟩
      by_cases hx : x = 0
      · exact hx
      · have hp : 0 < x.natAbs := by omega
        have h2 : (max N 0 + x.natAbs + 1).natAbs ∣ x.natAbs := Int.natAbs_dvd_natAbs.2 hd
        have := Nat.le_of_dvd hp h2
        omega
    have ha := ih (max N 1) (by
      intro t ht
      have h1 := h t (by omega)
      rw [ev_cons, hx, Int.zero_add] at h1
      rcases Int.mul_eq_zero.1 h1 with h2 | h2
      · omega
      · exact h2)
    intro c hc
    rcases List.mem_cons.1 hc with h1 | h1
    · rw [h1, hx]
    · exact ha c h1
theorem padd_length (a b : List Int) : (padd a b).length = max a.length b.length := by
  induction a generalizing b with
  | nil => simp [padd]
  | cons x a ih =>
    cases b with
    | nil => simp [padd]
    | cons y b => simp only [padd, List.length_cons, ih]; omega
theorem pscale_length (c : Int) (a : List Int) : (pscale c a).length = a.length := by simp [pscale]
theorem pmul_length (a b : List Int) (hb : b ≠ []) : (pmul a b).length ≤ a.length + b.length - 1 := by
  have hb' : 0 < b.length := List.length_pos_iff.2 hb
  induction a with
  | nil => simp [pmul]
  | cons x a ih =>
    simp only [pmul, padd_length, pscale_length, List.length_cons]
    omega
theorem padd_getD (a b : List Int) (i : Nat) : (padd a b).getD i 0 = a.getD i 0 + b.getD i 0 := by
  induction a generalizing b i with
  | nil => simp [padd]
  | cons x a ih =>
    cases b with
    | nil => simp [padd]
    | cons y b =>
      cases i with
      | zero => simp [padd]
      | succ i => simpa [padd] using ih b i
theorem pscale_getD (c : Int) (a : List Int) (i : Nat) : (pscale c a).getD i 0 = c * a.getD i 0 := by
  induction a generalizing i with
  | nil => simp [pscale]
  | cons x a ih =>
    cases i with
    | zero => simp [pscale]
    | succ i => simpa [pscale] using ih i
/-- polynomials with the same values have the same coefficients -/
theorem coef_ext (a b : List Int) (h : ∀ t, ev a t = ev b t) (i : Nat) : a.getD i 0 = b.getD i 0 := by
  have h1 := ev_large_zero (padd a (pscale (-1) b)) 0 (by
    intro t _; rw [ev_padd, ev_pscale, h t]; omega)
  have h2 : (padd a (pscale (-1) b)).getD i 0 = 0 := by
    by_cases hi : i < (padd a (pscale (-1) b)).length
    · rw [List.getD_eq_getElem?_getD, List.getElem?_eq_getElem hi]
      exact h1 _ (List.getElem_mem hi)
    · rw [List.getD_eq_getElem?_getD, List.getElem?_eq_none (by omega)]; rfl
  rw [padd_getD, pscale_getD] at h2
  omega
/-- a and b are congruent modulo p and the monic polynomial with the low coefficients low -/
def Cong (p : Int) (low : List Int) (a b : List Int) : Prop :=
  ∃ h u : List Int, ∀ t, ev a t = ev b t + ev (low ++ [1]) t * ev h t + p * ev u t
theorem Cong.refl (p : Int) (low a : List Int) : Cong p low a a := ⟨[], [], fun t => by simp⟩
theorem Cong.of_ev {p : Int} {low a b : List Int} (h : ∀ t, ev a t = ev b t) : Cong p low a b :=
  ⟨[], [], fun t => by simp [h t]⟩
theorem Cong.symm {p : Int} {low a b : List Int} (h : Cong p low a b) : Cong p low b a := by
  obtain ⟨x, u, e⟩ := h
  refine ⟨pscale (-1) x, pscale (-1) u, fun t => ?_⟩
  rw [e t, ev_pscale, ev_pscale, Int.mul_left_comm, Int.mul_left_comm p]; omega
theorem Cong.trans {p : Int} {low a b c : List Int} (h : Cong p low a b) (k : Cong p low b c) : Cong p low a c := by
  obtain ⟨x, u, e⟩ := h
  obtain ⟨y, v, f⟩ := k
  refine ⟨padd x y, padd u v, fun t => ?_⟩
  rw [e t, f t, ev_padd, ev_padd, Int.mul_add, Int.mul_add]; omega
theorem Cong.add {p : Int} {low a b c d : List Int} (h : Cong p low a b) (k : Cong p low c d) : Cong p low (padd a c) (padd b d) := by
  obtain ⟨x, u, e⟩ := h
  obtain ⟨y, v, f⟩ := k
  refine ⟨padd x y, padd u v, fun t => ?_⟩
  rw [ev_padd, ev_padd, e t, f t, ev_padd, ev_padd, Int.mul_add, Int.mul_add]; omega
theorem Cong.mul_comm (p : Int) (low a b : List Int) : Cong p low (pmul a b) (pmul b a) :=
  Cong.of_ev fun t => by rw [ev_pmul, ev_pmul, Int.mul_comm]
/-- coefficientwise congruence modulo p -/
theorem Cong.of_mod {p : Int} {low a b : List Int} (h : ∀ i, p ∣ a.getD i 0 - b.getD i 0) : Cong p low a b := by
  suffices H : ∀ a b : List Int, (∀ i, p ∣ a.getD i 0 - b.getD i 0) → ∃ u : List Int, ∀ t, ev a t = ev b t + p * ev u t by
    obtain ⟨u, e⟩ := H a b h
    exact ⟨[], u, fun t => by rw [e t]; simp⟩
  intro a
  induction a with
  | nil =>
    intro b
    induction b with
    | nil => intro _; exact ⟨[], fun t => by simp⟩
    | cons y b ih =>
      intro h
      obtain ⟨u, e⟩ := ih (fun i => by simpa using h (i + 1))
      obtain ⟨k, hk⟩ := h 0
      refine ⟨k :: u, fun t => ?_⟩
      have := e t
      simp only [ev_nil, ev_cons, List.getD_cons_zero, List.getD_nil, Int.mul_add] at *
      rw [Int.mul_left_comm p t, ← Int.sub_eq_zero.2 this]
      have h3 : t * (0 - (ev b t + p * ev u t)) = -(t * ev b t) - t * (p * ev u t) := by
        rw [Int.mul_sub, Int.mul_add]; omega
      have h4 : t * (0 - (ev b t + p * ev u t)) = 0 := by rw [← this]; simp
      omega
  | cons x a ih =>
    intro b h
    cases b with
    | nil =>
      obtain ⟨u, e⟩ := ih [] (fun i => by simpa using h (i + 1))
      obtain ⟨k, hk⟩ := h 0
      refine ⟨k :: u, fun t => ?_⟩
      have h1 := e t
      simp only [ev_nil, ev_cons, List.getD_cons_zero, List.getD_nil, Int.mul_add, Int.zero_add] at *
      rw [h1, Int.mul_left_comm p t]; omega
    | cons y b =>
      obtain ⟨u, e⟩ := ih b (fun i => by simpa using h (i + 1))
      obtain ⟨k, hk⟩ := h 0
      refine ⟨k :: u, fun t => ?_⟩
      have h1 := e t
      simp only [ev_cons, List.getD_cons_zero, Int.mul_add] at *
      rw [h1, Int.mul_left_comm p t, Int.mul_add]; omega
theorem getD_append_left' (a b : List Int) (i : Nat) (h : i < a.length) : (a ++ b).getD i 0 = a.getD i 0 := by
  rw [List.getD_eq_getElem?_getD, List.getElem?_append_left h, ← List.getD_eq_getElem?_getD]
theorem getD_append_right' (a b : List Int) (i : Nat) (h : a.length ≤ i) : (a ++ b).getD i 0 = b.getD (i - a.length) 0 := by
  rw [List.getD_eq_getElem?_getD, List.getElem?_append_right h, ← List.getD_eq_getElem?_getD]
theorem getD_none' (a : List Int) (i : Nat) (h : a.length ≤ i) : a.getD i 0 = 0 := by
  rw [List.getD_eq_getElem?_getD, List.getElem?_eq_none h]; rfl
theorem ev_monic (low h : List Int) (t : Int) : ev (low ++ [1]) t * ev h t = ev (pmul low h) t + ev (List.replicate low.length 0 ++ h) t := by
  rw [ev_append, ev_pmul, ev_append, ev_replicate_zero, List.length_replicate]; simp [Int.add_mul]
/-- a multiple of a monic polynomial that is, modulo p, of lower degree, is 0 modulo p -/
theorem monic_multiple (p : Int) (low : List Int) : ∀ (n : Nat) (h u r : List Int), h.length = n → r.length ≤ low.length →
    (∀ t, ev r t = ev (low ++ [1]) t * ev h t + p * ev u t) → ∃ v : List Int, ∀ t, ev r t = p * ev v t := by
  intro n
  induction n with
  | zero =>
    intro h u r hn _ e
    rw [List.length_eq_zero_iff.1 hn] at e
    exact ⟨u, fun t => by rw [e t]; simp⟩
  | succ n ih =>
    intro h u r hn hr e
    obtain ⟨h0, c, rfl⟩ : ∃ h0 c, h = h0 ++ [c] := ⟨h.dropLast, h.getLast (by intro h'; simp [h'] at hn), (List.dropLast_concat_getLast _).symm⟩
    have hl : h0.length = n := by simpa using hn
    have h1 := coef_ext r (padd (padd (pmul low (h0 ++ [c])) (List.replicate low.length 0 ++ (h0 ++ [c]))) (pscale p u))
      (fun t => by rw [ev_padd, ev_padd, ev_pscale, ← ev_monic, e t]) (low.length + n)
    rw [padd_getD, padd_getD, pscale_getD, getD_none' r _ (by omega), getD_none' (pmul low (h0 ++ [c])) _ (by
        have := pmul_length low (h0 ++ [c]) (by simp); simp at this; omega),
      getD_append_right' _ _ _ (by simp), List.length_replicate, show low.length + n - low.length = n by omega, getD_append_right' _ _ _ (by omega), hl] at h1
    simp only [Nat.sub_self, List.getD_cons_zero, Int.zero_add] at h1
    have hc : c = p * (-(u.getD (low.length + n) 0)) := by rw [Int.mul_neg]; omega
    obtain ⟨v, hv⟩ : ∃ k, c = p * k := ⟨_, hc⟩
    apply ih h0 (padd u (pmul (low ++ [1]) (List.replicate n 0 ++ [v]))) r hl hr
    intro t
    rw [e t, ev_append h0, ev_padd, ev_pmul, ev_append (List.replicate n 0), ev_replicate_zero, List.length_replicate, hl, hv]
    simp only [ev_cons, ev_nil, Int.mul_zero, Int.add_zero, Int.zero_add, Int.mul_add]
    rw [Int.mul_left_comm (t ^ n) p, Int.mul_left_comm _ p]; omega
/-- reduced lists: so many entries, each from 0 to p-1 -/
def Red (p : Int) (M : Nat) (a : List Int) : Prop := a.length = M ∧ ∀ c ∈ a, 0 ≤ c ∧ c < p
theorem Red.getD {p : Int} {M : Nat} {a : List Int} (h : Red p M a) (hp : 0 < p) (i : Nat) : 0 ≤ a.getD i 0 ∧ a.getD i 0 < p := by
  by_cases hi : i < a.length
  · rw [List.getD_eq_getElem?_getD, List.getElem?_eq_getElem hi]
    exact h.2 _ (List.getElem_mem hi)
  · rw [getD_none' a i (by omega)]; omega
theorem small_eq {p x y : Int} (hx : 0 ≤ x ∧ x < p) (hy : 0 ≤ y ∧ y < p) (h : p ∣ x - y) : x = y := by
  obtain ⟨k, hk⟩ := h
  have h1 : k = 0 := by
    by_cases h0 : k = 0
    · exact h0
    · rcases Int.lt_or_gt_of_ne h0 with h2 | h2
      · have : p * k ≤ p * (-1) := Int.mul_le_mul_of_nonneg_left (by omega) (by omega)
        omega
      · have : p * 1 ≤ p * k := Int.mul_le_mul_of_nonneg_left (by omega) (by omega)
        omega
  rw [h1] at hk; omega
theorem ext_getD {a b : List Int} (hl : a.length = b.length) (h : ∀ i, i < a.length → a.getD i 0 = b.getD i 0) : a = b := by
  apply List.ext_getElem hl
  intro i h1 h2
  have := h i h1
  rw [List.getD_eq_getElem?_getD, List.getD_eq_getElem?_getD, List.getElem?_eq_getElem h1, List.getElem?_eq_getElem h2] at this
  exact this
/-- congruent reduced lists are equal -/
theorem Cong.eq {p : Int} {low a b : List Int} (hp : 0 < p) (ha : Red p low.length a) (hb : Red p low.length b) (h : Cong p low a b) : a = b := by
  obtain ⟨x, u, e⟩ := h
  obtain ⟨v, hv⟩ := monic_multiple p low x.length x u (padd a (pscale (-1) b)) rfl (by rw [padd_length, pscale_length, ha.1, hb.1]; omega) (fun t => by
    rw [ev_padd, ev_pscale, e t]; omega)
  refine ext_getD (ha.1.trans hb.1.symm) fun i _ => small_eq (ha.getD hp i) (hb.getD hp i) ?_
  have h1 := coef_ext (padd a (pscale (-1) b)) (pscale p v) (fun t => by rw [hv t, ev_pscale]) i
  rw [padd_getD, pscale_getD, pscale_getD] at h1
  exact ⟨v.getD i 0, by omega⟩
end Cw
/- Lists of limbs in base 2^32, and the numbers that they stand for. -/
namespace Cw
theorem ev_set (B : Int) (xs : List Int) : ∀ (i : Nat) (v : Int), i < xs.length → ev (xs.set i v) B = ev xs B + (v - xs.getD i 0) * B ^ i := by
  induction xs with
  | nil => intro i v h; simp at h
  | cons x xs ih =>
    intro i v h
    cases i with
    | zero => simp; omega
    | succ i =>
      have := ih i v (by simpa using h)
      simp only [List.set_cons_succ, ev_cons, this, List.getD_cons_succ, Int.pow_succ]
      grind
theorem ev_take_succ (B : Int) (xs : List Int) : ∀ (i : Nat), i < xs.length → ev (xs.take (i + 1)) B = ev (xs.take i) B + xs.getD i 0 * B ^ i := by
  induction xs with
  | nil => intro i h; simp at h
  | cons x xs ih =>
    intro i h
    cases i with
    | zero => simp
    | succ i =>
      have := ih i (by simpa using h)
      simp only [List.take_succ_cons, ev_cons, this, List.getD_cons_succ, Int.pow_succ]
      grind
theorem ev_take_succ' (B : Int) (xs : List Int) (i : Nat) : ev (xs.take (i + 1)) B = ev (xs.take i) B + xs.getD i 0 * B ^ i := by
  by_cases h : i < xs.length
  · exact ev_take_succ B xs i h
  · rw [List.take_of_length_le (by omega), List.take_of_length_le (by omega), getD_none' xs i (by omega)]; simp
/-- i limbs of a and b are added; c is carried -/
def PlusInv (a b out : List Int) (c : Int) (i : Nat) : Prop :=
  ev out 4294967296 + c * 4294967296 ^ i = ev (a.take i) 4294967296 + ev (b.take i) 4294967296
theorem PlusInv.step {a b out : List Int} {c : Int} {i : Nat} (h : PlusInv a b out c i) (hi : i < out.length) (hz : out.getD i 0 = 0) :
    PlusInv a b (out.set i ((a.getD i 0 + c + b.getD i 0) % 4294967296)) ((a.getD i 0 + c + b.getD i 0) / 4294967296) (i + 1) := by
  unfold PlusInv at *
  rw [ev_set _ _ _ _ hi, hz, ev_take_succ', ev_take_succ', Int.pow_succ]
  have e1 := Int.emod_add_mul_ediv (a.getD i 0 + c + b.getD i 0) 4294967296
  generalize (4294967296 : Int) ^ i = P at *
  generalize ev out 4294967296 = E at *
  generalize (a.getD i 0 + c + b.getD i 0) % 4294967296 = r at *
  generalize (a.getD i 0 + c + b.getD i 0) / 4294967296 = q at *
  have e2 : r = a.getD i 0 + c + b.getD i 0 - 4294967296 * q := by omega
  rw [e2]
  grind
theorem PlusInv.start (a b : List Int) (n : Nat) : PlusInv a b (List.replicate n 0) 0 0 := by
  unfold PlusInv; rw [ev_replicate_zero]; simp
theorem PlusInv.last {a b out : List Int} {c : Int} {i : Nat} (h : PlusInv a b out c i) (ha : a.length ≤ i) (hb : b.length ≤ i) (hi : i < out.length) (hz : out.getD i 0 = 0) :
    ev (out.set i c) 4294967296 = ev a 4294967296 + ev b 4294967296 := by
  unfold PlusInv at h
  rw [List.take_of_length_le ha, List.take_of_length_le hb] at h
  rw [ev_set _ _ _ _ hi, hz, ← h]
  have : (c - 0) = c := by omega
  rw [this]
/-- a.take i is multiplied, and a[i] with j limbs of b; c is carried -/
def TimesInv (a b out : List Int) (c : Int) (i j : Nat) : Prop :=
  ev out 4294967296 + c * 4294967296 ^ (i + j) = ev (a.take i) 4294967296 * ev b 4294967296 + a.getD i 0 * ev (b.take j) 4294967296 * 4294967296 ^ i
theorem TimesInv.step {a b out : List Int} {c : Int} {i j : Nat} (h : TimesInv a b out c i j) (hi : i + j < out.length) :
    TimesInv a b (out.set (i + j) ((a.getD i 0 * b.getD j 0 + out.getD (i + j) 0 + c) % 4294967296)) ((a.getD i 0 * b.getD j 0 + out.getD (i + j) 0 + c) / 4294967296) i (j + 1) := by
  unfold TimesInv at *
  rw [ev_set _ _ _ _ hi, ev_take_succ' _ b, ← Nat.add_assoc, Int.pow_succ]
  have e1 := Int.emod_add_mul_ediv (a.getD i 0 * b.getD j 0 + out.getD (i + j) 0 + c) 4294967296
  generalize (a.getD i 0 * b.getD j 0 + out.getD (i + j) 0 + c) % 4294967296 = r at *
  generalize (a.getD i 0 * b.getD j 0 + out.getD (i + j) 0 + c) / 4294967296 = q at *
  rw [Int.pow_add] at *
  generalize (4294967296 : Int) ^ i = P at *
  generalize (4294967296 : Int) ^ j = Q at *
  generalize ev out 4294967296 = E at *
  generalize ev (b.take j) 4294967296 = F at *
  generalize ev (a.take i) 4294967296 * ev b 4294967296 = G at *
  grind
theorem TimesInv.next {a b out : List Int} {c : Int} {i : Nat} (h : TimesInv a b out c i b.length) (hi : i + b.length < out.length) (hz : out.getD (i + b.length) 0 = 0) :
    TimesInv a b (out.set (i + b.length) c) 0 (i + 1) 0 := by
  unfold TimesInv at *
  rw [ev_set _ _ _ _ hi, hz, ev_take_succ' _ a]
  rw [List.take_length] at h
  simp only [List.take_zero, ev_nil, Int.mul_zero, Int.zero_mul, Int.add_zero, Int.add_mul, Int.sub_zero]
  rw [h, Int.mul_right_comm]
theorem TimesInv.start (a b : List Int) (n : Nat) : TimesInv a b (List.replicate n 0) 0 0 0 := by
  unfold TimesInv; rw [ev_replicate_zero]; simp
theorem TimesInv.last {a b out : List Int} {i : Nat} (h : TimesInv a b out 0 i 0) (hi : a.length ≤ i) : ev out 4294967296 = ev a 4294967296 * ev b 4294967296 := by
  unfold TimesInv at h
  rw [List.take_of_length_le hi] at h
  simpa using h
/-- a is divided by d from the top down to index i; r is the rest -/
def DigInv (a : List Int) (d : Int) (out : List Int) (r : Int) (i : Nat) : Prop :=
  ev out 4294967296 * d + r * 4294967296 ^ i + ev (a.take i) 4294967296 = ev a 4294967296
theorem DigInv.step {a out : List Int} {d r : Int} {i : Nat} (h : DigInv a d out r (i + 1)) (hi : i < out.length) (hz : out.getD i 0 = 0) :
    DigInv a d (out.set i ((r * 4294967296 + a.getD i 0) / d)) ((r * 4294967296 + a.getD i 0) % d) i := by
  unfold DigInv at *
  rw [ev_set _ _ _ _ hi, hz]
  rw [ev_take_succ', Int.pow_succ] at h
  have e1 := Int.emod_add_mul_ediv (r * 4294967296 + a.getD i 0) d
  generalize (r * 4294967296 + a.getD i 0) % d = r' at *
  generalize (r * 4294967296 + a.getD i 0) / d = q at *
  generalize (4294967296 : Int) ^ i = P at *
  rw [← h]
  grind
theorem DigInv.start (a : List Int) (d : Int) (n : Nat) : DigInv a d (List.replicate n 0) 0 a.length := by
  unfold DigInv; rw [ev_replicate_zero]; simp
theorem DigInv.last {a out : List Int} {d r : Int} (h : DigInv a d out r 0) : ev out 4294967296 * d + r = ev a 4294967296 := by
  unfold DigInv at h; simpa using h
theorem dig_small {r d x : Int} (hr : 0 ≤ r ∧ r < d) (hx : 0 ≤ x ∧ x < 4294967296) (hd : 0 < d) : 0 ≤ (r * 4294967296 + x) / d ∧ (r * 4294967296 + x) / d < 4294967296 := by
  refine ⟨Int.ediv_nonneg (by omega) (by omega), Int.ediv_lt_of_lt_mul hd ?_⟩
  have : (r + 1) * 4294967296 ≤ d * 4294967296 := Int.mul_le_mul_of_nonneg_right (by omega) (by omega)
  rw [Int.mul_comm 4294967296 d]; omega
/-- limbs: each from 0 to 2^32 - 1 -/
def Lim (xs : List Int) : Prop := ∀ c ∈ xs, 0 ≤ c ∧ c < 4294967296
/-- xs are limbs that stand for n -/
def Is (xs : List Int) (n : Nat) : Prop := Lim xs ∧ ev xs 4294967296 = (n : Int)
theorem Lim.nil : Lim [] := fun c h => by simp at h
theorem Lim.getD {xs : List Int} (h : Lim xs) (i : Nat) : 0 ≤ xs.getD i 0 ∧ xs.getD i 0 < 4294967296 := by
  by_cases hi : i < xs.length
  · rw [List.getD_eq_getElem?_getD, List.getElem?_eq_getElem hi]
    exact h _ (List.getElem_mem hi)
  · rw [getD_none' xs i (by omega)]; omega
theorem Lim.set {xs : List Int} (h : Lim xs) (i : Nat) {v : Int} (h0 : 0 ≤ v) (h1 : v < 4294967296) : Lim (xs.set i v) := by
  intro c hc
  rcases List.mem_or_eq_of_mem_set hc with h' | h'
  · exact h c h'
  · rw [h']; exact ⟨h0, h1⟩
theorem Lim.cons {x : Int} {xs : List Int} (h0 : 0 ≤ x) (h1 : x < 4294967296) (h : Lim xs) : Lim (x :: xs) := by
  intro c hc
  rcases List.mem_cons.1 hc with h' | h'
  · rw [h']; exact ⟨h0, h1⟩
  · exact h c h'
theorem Lim.tail {x : Int} {xs : List Int} (h : Lim (x :: xs)) : Lim xs := fun c hc => h c (by simp [hc])
theorem Lim.head {x : Int} {xs : List Int} (h : Lim (x :: xs)) : 0 ≤ x ∧ x < 4294967296 := h x (by simp)
theorem Lim.append {a b : List Int} (h : Lim a) (k : Lim b) : Lim (a ++ b) := by
  intro c hc
  rcases List.mem_append.1 hc with h' | h'
  · exact h c h'
  · exact k c h'
theorem Lim.zeros (n : Nat) : Lim (List.replicate n 0) := by
  intro c hc
  rw [List.eq_of_mem_replicate hc]; omega
theorem Lim.take {xs : List Int} (h : Lim xs) (n : Nat) : Lim (xs.take n) := fun c hc => h c (List.mem_of_mem_take hc)
theorem Lim.drop {xs : List Int} (h : Lim xs) (n : Nat) : Lim (xs.drop n) := fun c hc => h c (List.mem_of_mem_drop hc)
theorem Lim.nonneg {xs : List Int} (h : Lim xs) : 0 ≤ ev xs 4294967296 := by
  induction xs with
  | nil => simp
  | cons x xs ih => rw [ev_cons]; have := ih h.tail; have := h.head; omega
theorem Lim.lt {xs : List Int} (h : Lim xs) : ev xs 4294967296 < 4294967296 ^ xs.length := by
  induction xs with
  | nil => simp
  | cons x xs ih => rw [ev_cons, List.length_cons, Int.pow_succ]; have := ih h.tail; have := h.head; omega
theorem Lim.is {xs : List Int} (h : Lim xs) : Is xs (ev xs 4294967296).toNat := ⟨h, by have := h.nonneg; omega⟩
theorem Is.nil : Is [] 0 := ⟨Lim.nil, rfl⟩
theorem Is.cons {c : Int} {xs : List Int} {n : Nat} (h0 : 0 ≤ c) (h1 : c < 4294967296) (h : Is xs n) : Is (c :: xs) (c.toNat + 4294967296 * n) :=
  ⟨Lim.cons h0 h1 h.1, by rw [ev_cons, h.2]; omega⟩
/-- the limbs of n, without zeros at the end -/
def enc (n : Nat) : List Int :=
  if n = 0 then [] else ((n % 4294967296 : Nat) : Int) :: enc (n / 4294967296)
termination_by n
decreasing_by omega
theorem enc_zero : enc 0 = [] := by rw [enc]; rfl
theorem enc_pos {n : Nat} (h : n ≠ 0) : enc n = ((n % 4294967296 : Nat) : Int) :: enc (n / 4294967296) := by rw [enc, if_neg h]
theorem enc_is (n : Nat) : Is (enc n) n := by
  induction n using Nat.strongRecOn with
  | ind n ih =>
    by_cases h : n = 0
    · subst h; rw [enc_zero]; exact Is.nil
    · rw [enc_pos h]
      have := Is.cons (c := ((n % 4294967296 : Nat) : Int)) (by omega) (by omega) (ih (n / 4294967296) (by omega))
      have e : ((n % 4294967296 : Nat) : Int).toNat + 4294967296 * (n / 4294967296) = n := by omega
      rwa [e] at this
theorem enc_lim (n : Nat) : Lim (enc n) := (enc_is n).1
theorem enc_ne {n : Nat} (h : n ≠ 0) : enc n ≠ [] := by rw [enc_pos h]; simp
/-- limbs that do not end with 0 are the limbs of their number -/
theorem eq_enc {xs : List Int} : ∀ {n : Nat}, Is xs n → xs.getLast? ≠ some 0 → xs = enc n := by
  induction xs with
  | nil =>
    intro n h _
    have h1 : (0 : Int) = n := h.2
    have : n = 0 := by omega
    rw [this, enc_zero]
  | cons c xs ih =>
    intro n h hl
    have hx := h.1.tail.is
    have hc := h.1.head
    have hn := h.2
    rw [ev_cons, hx.2] at hn
    have e2 : xs.getLast? ≠ some 0 := by
      intro h'
      rcases List.eq_nil_or_concat xs with h1 | ⟨l, x, h1⟩
      · rw [h1] at h'; simp at h'
      · rw [h1] at h' hl
        rw [List.concat_eq_append] at h' hl
        have h4 : ((c :: l) ++ [x]).getLast? = some x := List.getLast?_concat
        have h5 : (l ++ [x]).getLast? = some x := by simp
        rw [← List.cons_append, h4] at hl; rw [h5] at h'
        exact hl h'
    have ih' := ih hx e2
    generalize (ev xs 4294967296).toNat = m at *
    have h3 : n ≠ 0 := by
      intro h0
      have hm : m = 0 := by omega
      rw [hm, enc_zero] at ih'
      rw [ih'] at hl
      have : c = 0 := by omega
      rw [this] at hl; simp at hl
    rw [enc_pos h3, show n % 4294967296 = c.toNat by omega, show n / 4294967296 = m by omega, ← ih']
    have : ((c.toNat : Nat) : Int) = c := by omega
    rw [this]
theorem enc_last (n : Nat) : (enc n).getLast? ≠ some 0 := by
  induction n using Nat.strongRecOn with
  | ind n ih =>
    by_cases h : n = 0
    · rw [h, enc_zero]; simp
    · rw [enc_pos h]
      by_cases h1 : n / 4294967296 = 0
      · rw [h1, enc_zero]; simp; omega
      · have := ih (n / 4294967296) (by omega)
        rw [List.getLast?_cons]
        intro h2
        rcases h3 : (enc (n / 4294967296)).getLast? with _ | z
        · rw [List.getLast?_eq_none_iff] at h3; exact enc_ne h1 h3
        · rw [h3] at h2 this; simp at h2 this; exact this h2
theorem enc_length_le (L : Nat) : ∀ {n : Nat}, n < 4294967296 ^ L → (enc n).length ≤ L := by
  induction L with
  | zero => intro n h; have : n = 0 := by simpa using h
            rw [this, enc_zero]; simp
  | succ L ih =>
    intro n h
    by_cases h0 : n = 0
    · rw [h0, enc_zero]; simp
    · rw [enc_pos h0, List.length_cons]
      have := ih (n := n / 4294967296) (by rw [Nat.pow_succ] at h; exact Nat.div_lt_of_lt_mul (by rw [Nat.mul_comm]; exact h))
      omega
theorem nat_lt_pow {n L : Nat} (h : (n : Int) < 4294967296 ^ L) : n < 4294967296 ^ L := by
  apply Int.ofNat_lt.1
  rw [Int.natCast_pow]
  exact h
theorem two_pow_lt {a L : Nat} (h : a < 32 * L) : 2 ^ a < 4294967296 ^ L := by
  rw [show (4294967296 : Nat) = 2 ^ 32 by rfl, ← Nat.pow_mul]
  exact Nat.pow_lt_pow_right (by omega) h
theorem lt_of_enc_length {L n : Nat} (h : (enc n).length ≤ L) : n < 4294967296 ^ L := by
  have h1 := (enc_lim n).lt
  rw [(enc_is n).2] at h1
  have h2 : n < 4294967296 ^ (enc n).length := nat_lt_pow h1
  exact Nat.lt_of_lt_of_le h2 (Nat.pow_le_pow_right (by omega) h)
theorem Is.lt {xs : List Int} {n : Nat} (h : Is xs n) : n < 4294967296 ^ xs.length := by
  have h1 := h.1.lt
  rw [h.2] at h1
  exact nat_lt_pow h1
theorem Is.enc_length {xs : List Int} {n : Nat} (h : Is xs n) : (enc n).length ≤ xs.length := enc_length_le _ h.lt
theorem ev_drop_zeros (B : Int) (xs : List Int) (m : Nat) (h : ∀ i, m ≤ i → i < xs.length → xs.getD i 0 = 0) : ev (xs.take m) B = ev xs B := by
  have e : xs = xs.take m ++ xs.drop m := (List.take_append_drop m xs).symm
  rw [show ev xs B = ev (xs.take m ++ xs.drop m) B by rw [← e], ev_append, ev_zeros (xs.drop m)]
  · simp
  · intro c hc
    obtain ⟨i, hi, rfl⟩ := List.mem_iff_getElem.1 hc
    rw [List.length_drop] at hi
    have := h (m + i) (by omega) (by omega)
    rw [List.getD_eq_getElem?_getD, List.getElem?_eq_getElem (by omega)] at this
    simpa using this
theorem Is.take {xs : List Int} {n : Nat} (hx : Is xs n) (m : Nat) (h : ∀ i, m ≤ i → i < xs.length → xs.getD i 0 = 0) : Is (xs.take m) n :=
  ⟨hx.1.take m, by rw [ev_drop_zeros _ xs m h, hx.2]⟩
/-- what is left when the zeros at the end are cut off -/
theorem take_eq_enc {xs : List Int} {n : Nat} (hx : Is xs n) (m : Nat) (hm : m ≤ xs.length) (h : ∀ i, m ≤ i → i < xs.length → xs.getD i 0 = 0)
    (h0 : m = 0 ∨ xs.getD (m - 1) 0 ≠ 0) : xs.take m = enc n := by
  refine eq_enc (hx.take m h) ?_
  rcases h0 with h0 | h0
  · rw [h0]; simp
  · intro h1
    rw [List.getLast?_eq_getElem?] at h1
    have hl : (xs.take m).length = m := by rw [List.length_take]; omega
    rw [hl] at h1
    by_cases hz : m = 0
    · rw [hz] at h1; simp at h1
    · rw [List.getElem?_take, if_pos (by omega)] at h1
      exact h0 (by rw [List.getD_eq_getElem?_getD, h1]; rfl)
/-- the top limb -/
theorem enc_top {m : Nat} (h : m ≠ 0) : ∃ top low : Nat, (enc m).getD ((enc m).length - 1) 0 = (top : Int) ∧ 0 < top ∧ top < 4294967296 ∧ low < 2 ^ (32 * ((enc m).length - 1)) ∧ m = low + top * 2 ^ (32 * ((enc m).length - 1)) := by
  have hp : 0 < (enc m).length := List.length_pos_iff.2 (enc_ne h)
  have h1 := ev_take_succ' 4294967296 (enc m) ((enc m).length - 1)
  rw [show (enc m).length - 1 + 1 = (enc m).length by omega, List.take_length, (enc_is m).2] at h1
  have hd := (enc_lim m).getD ((enc m).length - 1)
  have hl := ((enc_lim m).take ((enc m).length - 1)).is
  have hlt := hl.lt
  have hln : ((enc m).take ((enc m).length - 1)).length = (enc m).length - 1 := by rw [List.length_take]; omega
  rw [hln] at hlt
  rw [hl.2] at h1
  have h0 : (enc m).getD ((enc m).length - 1) 0 ≠ 0 := by
    intro h2
    have h3 := enc_last m
    rw [List.getLast?_eq_getElem?] at h3
    rw [List.getD_eq_getElem?_getD, List.getElem?_eq_getElem (by omega)] at h2
    rw [List.getElem?_eq_getElem (by omega)] at h3
    exact h3 (congrArg some h2)
  have hpw : (4294967296 : Nat) ^ ((enc m).length - 1) = 2 ^ (32 * ((enc m).length - 1)) := by rw [Nat.pow_mul]
  rw [hpw] at hlt
  refine ⟨((enc m).getD ((enc m).length - 1) 0).toNat, (ev ((enc m).take ((enc m).length - 1)) 4294967296).toNat, by omega, by omega, by omega, hlt, ?_⟩
  apply Int.ofNat_inj.1
  rw [h1, ← hpw]
  rw [Int.natCast_add, Int.natCast_mul, Int.natCast_pow, Int.toNat_of_nonneg hd.1]
  rfl
theorem lset_self (xs : List Int) (i : Nat) (v : Int) (h : i < xs.length) : (xs.set i v).getD i 0 = v := by
  rw [List.getD_eq_getElem?_getD, List.getElem?_set_self h]; rfl
theorem lset_ne (xs : List Int) (i j : Nat) (v : Int) (h : i ≠ j) : (xs.set i v).getD j 0 = xs.getD j 0 := by
  rw [List.getD_eq_getElem?_getD, List.getElem?_set_ne h, ← List.getD_eq_getElem?_getD]
theorem lzeros_getD (n i : Nat) : (List.replicate n (0 : Int)).getD i 0 = 0 := by
  rw [List.getD_eq_getElem?_getD, List.getElem?_replicate]; split <;> rfl
theorem pow_le_lim {i j : Nat} (h : i ≤ j) : (4294967296 : Int) ^ i ≤ 4294967296 ^ j := by
  have h1 : (4294967296 : Nat) ^ i ≤ 4294967296 ^ j := Nat.pow_le_pow_right (by omega) h
  have h2 := Int.ofNat_le.2 h1
  rw [Int.natCast_pow, Int.natCast_pow] at h2
  exact h2
/-- the limbs from i on are alike -/
def TopEq (xs ys : List Int) (i : Nat) : Prop := ev xs 4294967296 - ev (xs.take i) 4294967296 = ev ys 4294967296 - ev (ys.take i) 4294967296
theorem TopEq.start {xs ys : List Int} {i : Nat} (hx : xs.length ≤ i) (hy : ys.length ≤ i) : TopEq xs ys i := by
  unfold TopEq; rw [List.take_of_length_le hx, List.take_of_length_le hy]; omega
theorem TopEq.step {xs ys : List Int} {i : Nat} (h : TopEq xs ys (i + 1)) (e : xs.getD i 0 = ys.getD i 0) : TopEq xs ys i := by
  unfold TopEq at *
  rw [ev_take_succ', ev_take_succ', e] at h
  generalize ys.getD i 0 * 4294967296 ^ i = t at *
  omega
theorem TopEq.zero {xs ys : List Int} (h : TopEq xs ys 0) : ev xs 4294967296 = ev ys 4294967296 := by
  unfold TopEq at h; simp at h; exact h
theorem TopEq.symm {xs ys : List Int} {i : Nat} (h : TopEq xs ys i) : TopEq ys xs i := Eq.symm h
theorem TopEq.lt {xs ys : List Int} {i : Nat} (h : TopEq xs ys (i + 1)) (hx : Lim xs) (hy : Lim ys) (hl : xs.getD i 0 < ys.getD i 0) : ev xs 4294967296 < ev ys 4294967296 := by
  unfold TopEq at h
  rw [ev_take_succ', ev_take_succ'] at h
  have h1 := (hx.take i).lt
  have h2 := (hy.take i).nonneg
  have h3 : (4294967296 : Int) ^ (xs.take i).length ≤ 4294967296 ^ i := pow_le_lim (by rw [List.length_take]; omega)
  have h4 : 0 ≤ (4294967296 : Int) ^ i := Int.pow_nonneg (by omega)
  have h5 : (xs.getD i 0 + 1) * 4294967296 ^ i ≤ ys.getD i 0 * 4294967296 ^ i := Int.mul_le_mul_of_nonneg_right (by omega) h4
  rw [Int.add_mul, Int.one_mul] at h5
  generalize xs.getD i 0 * 4294967296 ^ i = t at *
  generalize ys.getD i 0 * 4294967296 ^ i = u at *
  generalize (4294967296 : Int) ^ i = P at *
  generalize (4294967296 : Int) ^ (xs.take i).length = P' at *
  omega
theorem mul_lim {a b : Int} (ha : 0 ≤ a ∧ a < 4294967296) (hb : 0 ≤ b ∧ b < 4294967296) : 0 ≤ a * b ∧ a * b ≤ 18446744065119617025 := by
  refine ⟨Int.mul_nonneg ha.1 hb.1, ?_⟩
  have h1 : a * b ≤ 4294967295 * b := Int.mul_le_mul_of_nonneg_right (by omega) hb.1
  omega
end Cw
/- From some number of rounds on: how the answers of printed functions are put together. -/
namespace Cw
/-- from some number of rounds on, g answers r -/
def Evt {α : Type} (g : Nat → Option α) (r : α) : Prop := ∃ K, ∀ k, K ≤ k → g k = some r
theorem Evt.now {α : Type} (r : α) : Evt (fun _ => some r) r := ⟨0, fun _ _ => rfl⟩
theorem Evt.now' {α : Type} {r r' : α} (h : r' = r) : Evt (fun _ => some r') r := h ▸ Evt.now r'
theorem Evt.rounds {α : Type} {g : Nat → Option α} {r : α} (h : Evt g r) : ∃ k, g k = some r := by
  obtain ⟨K, h⟩ := h
  exact ⟨K, h K (Nat.le_refl _)⟩
theorem Evt.bind {α β : Type} {g : Nat → Option α} {f : Nat → α → Option β} {a : α} {r : β} (h : Evt g a) (k : Evt (fun n => f n a) r) : Evt (fun n => (g n).bind (f n)) r := by
  obtain ⟨K, h⟩ := h
  obtain ⟨K', k⟩ := k
  refine ⟨max K K', fun n hn => ?_⟩
  have h1 := h n (by omega)
  have h2 := k n (by omega)
  simp only [h1, Option.bind_some]
  exact h2
theorem Evt.step {α : Type} {g f : Nat → Option α} {r : α} (h : ∀ k, g (k + 1) = f k) (k : Evt f r) : Evt g r := by
  obtain ⟨K, k⟩ := k
  refine ⟨K + 1, fun n hn => ?_⟩
  obtain ⟨m, rfl⟩ : ∃ m, n = m + 1 := ⟨n - 1, by omega⟩
  rw [h]
  exact k m (by omega)
theorem Evt.congr {α : Type} {g f : Nat → Option α} {r : α} (h : ∀ k, g k = f k) (k : Evt f r) : Evt g r := by
  obtain ⟨K, k⟩ := k
  exact ⟨K, fun n hn => (h n).trans (k n hn)⟩
theorem Evt.pos {α : Type} {c : Prop} [Decidable c] {A B : Nat → Option α} {r : α} (h : c) (H : Evt A r) : Evt (fun k => if c then A k else B k) r :=
  Evt.congr (fun _ => if_pos h) H
theorem Evt.neg {α : Type} {c : Prop} [Decidable c] {A B : Nat → Option α} {r : α} (h : ¬ c) (H : Evt B r) : Evt (fun k => if c then A k else B k) r :=
  Evt.congr (fun _ => if_neg h) H
theorem Evt.fixed {α : Type} {o : Option α} {r : α} (h : o = some r) : Evt (fun _ => o) r := ⟨0, fun _ _ => h⟩
theorem Evt.bind0 {α β : Type} {o : Option α} {f : Nat → α → Option β} {a : α} {r : β} (h : o = some a) (k : Evt (fun n => f n a) r) : Evt (fun n => o.bind (f n)) r :=
  Evt.bind (Evt.fixed h) k
theorem Evt.eq {α : Type} {g : Nat → Option α} {r r' : α} (h : Evt g r) (e : r = r') : Evt g r' := e ▸ h
end Cw
/- The ring of polynomials modulo p and a monic polynomial, on numbers from 0 to p^M - 1; it is a field if the polynomial is irreducible. -/
namespace Cw
/-- the n lowest digits of x in base p -/
def digs (p : Int) : Nat → Int → List Int
  | 0, _ => []
  | n + 1, x => x % p :: digs p n (x / p)
theorem digs_length (p : Int) (n : Nat) (x : Int) : (digs p n x).length = n := by
  induction n generalizing x with
  | zero => rfl
  | succ n ih => simp [digs, ih]
theorem digs_red {p : Int} (hp : 0 < p) (n : Nat) (x : Int) : Red p n (digs p n x) := by
  refine ⟨digs_length p n x, ?_⟩
  induction n generalizing x with
  | zero => intro c hc; simp [digs] at hc
  | succ n ih =>
    intro c hc
    rcases List.mem_cons.1 hc with h | h
    · rw [h]; exact ⟨Int.emod_nonneg _ (by omega), Int.emod_lt_of_pos _ hp⟩
    · exact ih _ c h
theorem ev_digs {p : Int} (hp : 0 < p) (n : Nat) (x : Int) (h0 : 0 ≤ x) (h1 : x < p ^ n) : ev (digs p n x) p = x := by
  induction n generalizing x with
  | zero => simp at h1; simp [digs]; omega
  | succ n ih =>
    rw [digs, ev_cons, ih (x / p) (Int.ediv_nonneg h0 (by omega)) (by rw [Int.pow_succ] at h1; exact Int.ediv_lt_of_lt_mul hp h1)]
    exact Int.emod_add_mul_ediv x p
theorem ev_range {p : Int} (hp : 0 < p) : ∀ {n : Nat} {d : List Int}, Red p n d → 0 ≤ ev d p ∧ ev d p < p ^ n := by
  intro n d
  induction d generalizing n with
  | nil => intro h; have h1 := h.1; simp at h1; subst h1; simp
  | cons c d ih =>
    intro h
    obtain ⟨m, rfl⟩ : ∃ m, n = m + 1 := ⟨n - 1, by have := h.1; simp at this; omega⟩
    have h1 := ih (n := m) ⟨by have := h.1; simpa using this, fun e he => h.2 e (by simp [he])⟩
    have h2 := h.2 c (by simp)
    rw [ev_cons, Int.pow_succ, Int.mul_comm (p ^ m)]
    have h3 : 0 ≤ p * ev d p := Int.mul_nonneg (by omega) h1.1
    have h4 : p * (ev d p + 1) ≤ p * p ^ m := Int.mul_le_mul_of_nonneg_left (by omega) (by omega)
    rw [Int.mul_add] at h4
    omega
theorem digs_ev {p : Int} (hp : 0 < p) : ∀ {n : Nat} {d : List Int}, Red p n d → digs p n (ev d p) = d := by
  intro n d
  induction d generalizing n with
  | nil => intro h; have h1 := h.1; simp at h1; subst h1; rfl
  | cons c d ih =>
    intro h
    obtain ⟨m, rfl⟩ : ∃ m, n = m + 1 := ⟨n - 1, by have := h.1; simp at this; omega⟩
    have h1 := ih (n := m) ⟨by have := h.1; simpa using this, fun e he => h.2 e (by simp [he])⟩
    have h2 := h.2 c (by simp)
    rw [digs, ev_cons]
    have h3 : (c + p * ev d p) % p = c := by rw [Int.add_mul_emod_self_left]; exact Int.emod_eq_of_lt h2.1 h2.2
    have h4 : (c + p * ev d p) / p = ev d p := by
      rw [Int.add_mul_ediv_left _ _ (by omega), Int.ediv_eq_zero_of_lt h2.1 h2.2]; omega
    rw [h3, h4, h1]
/-- division by a monic polynomial -/
theorem monic_div (low : List Int) : ∀ a : List Int, ∃ s r : List Int, (∀ t, ev a t = ev (low ++ [1]) t * ev s t + ev r t) ∧ r.length = low.length := by
  intro a
  rcases List.eq_nil_or_concat low with hl | ⟨l0, cl, hl⟩
  · subst hl; exact ⟨a, [], fun t => by simp, rfl⟩
  · induction a with
    | nil => exact ⟨[], List.replicate low.length 0, fun t => by simp [ev_replicate_zero], by simp⟩
    | cons x a ih =>
      obtain ⟨s, r, e, hr⟩ := ih
      obtain ⟨r0, c, rfl⟩ : ∃ r0 c, r = r0 ++ [c] := by
        rcases List.eq_nil_or_concat r with h | ⟨r0, c, h⟩
        · rw [h, hl] at hr; simp at hr
        · exact ⟨r0, c, by simpa using h⟩
      have hr0 : r0.length + 1 = low.length := by simpa using hr
      refine ⟨c :: s, padd (x :: r0) (pscale (-c) low), fun t => ?_, by rw [padd_length, pscale_length]; simp; omega⟩
      rw [ev_cons, e t, ev_append low, ev_append r0, ev_padd, ev_pscale, ev_cons, ev_cons, ← hr0, Int.pow_succ]
      simp only [ev_cons, ev_nil, Int.mul_zero, Int.add_zero, Int.mul_add, Int.add_mul, Int.mul_one, Int.neg_mul]
      have h1 : t * (t ^ r0.length * c) = t ^ r0.length * t * c := by rw [← Int.mul_assoc, Int.mul_comm t]
      have h2 : t * (ev low t * ev s t) = ev low t * (t * ev s t) := Int.mul_left_comm ..
      have h3 : t * (t ^ r0.length * t * ev s t) = t ^ r0.length * t * (t * ev s t) := Int.mul_left_comm ..
      have h4 : ev low t * c = c * ev low t := Int.mul_comm ..
      omega
/-- the entries modulo p -/
def modp (p : Int) (a : List Int) : List Int := a.map (· % p)
theorem modp_red {p : Int} (hp : 0 < p) (a : List Int) : Red p a.length (modp p a) := by
  refine ⟨by simp [modp], fun c hc => ?_⟩
  obtain ⟨x, _, rfl⟩ := List.mem_map.1 hc
  exact ⟨Int.emod_nonneg _ (by omega), Int.emod_lt_of_pos _ hp⟩
theorem modp_getD (p : Int) (a : List Int) (i : Nat) : (modp p a).getD i 0 = a.getD i 0 % p := by
  by_cases h : i < a.length
  · simp [modp, List.getD_eq_getElem?_getD, List.getElem?_eq_getElem h]
  · simp [modp, List.getD_eq_getElem?_getD, List.getElem?_eq_none (Nat.le_of_not_lt h)]
theorem modp_cong (p : Int) (low a : List Int) : Cong p low (modp p a) a :=
  Cong.of_mod fun i => by rw [modp_getD]; exact ⟨-(a.getD i 0 / p), by have := Int.emod_add_mul_ediv (a.getD i 0) p; rw [Int.mul_neg]; omega⟩
/-- each polynomial has a reduced one -/
theorem exists_red {p : Int} (hp : 0 < p) (low a : List Int) : ∃ r, Red p low.length r ∧ Cong p low r a := by
  obtain ⟨s, r, e, hr⟩ := monic_div low a
  refine ⟨modp p r, hr ▸ modp_red hp r, (modp_cong p low r).trans (Cong.symm ⟨s, [], fun t => by rw [e t]; simp; omega⟩)⟩
end Cw
/- Sums and products of the numbers from 0 to p^M - 1 by their digits, modulo p and a monic polynomial. -/
namespace Cw
/-- the reduced list of a polynomial -/
noncomputable def redl (p : Int) (low a : List Int) : List Int := if h : 0 < p then Classical.choose (exists_red h low a) else []
theorem redl_spec {p : Int} (hp : 0 < p) (low a : List Int) : Red p low.length (redl p low a) ∧ Cong p low (redl p low a) a := by
  unfold redl
  rw [dif_pos hp]
  exact Classical.choose_spec (exists_red hp low a)
theorem redl_eq {p : Int} (hp : 0 < p) {low a r : List Int} (h1 : Red p low.length r) (h2 : Cong p low r a) : redl p low a = r := by
  obtain ⟨h3, h4⟩ := redl_spec hp low a
  exact Cong.eq hp h3 h1 (h4.trans h2.symm)
/-- the low coefficients of a field's polynomial; of x for a prime field -/
def lowOf (M : Nat) (mod : List Int) : List Int := if M = 1 then [0] else mod
/-- an element, or 0 -/
def fin (q x : Int) : Int := if 0 ≤ x ∧ x < q then x else 0
noncomputable def fadd (p : Int) (M : Nat) (mod : List Int) (x y : Int) : Int :=
  ev (redl p (lowOf M mod) (padd (digs p M (fin (p ^ M) x)) (digs p M (fin (p ^ M) y)))) p
noncomputable def fmul (p : Int) (M : Nat) (mod : List Int) (x y : Int) : Int :=
  ev (redl p (lowOf M mod) (pmul (digs p M (fin (p ^ M) x)) (digs p M (fin (p ^ M) y)))) p
theorem fin_in {q : Int} (hq : 0 < q) (x : Int) : 0 ≤ fin q x ∧ fin q x < q := by
  unfold fin; split
  · assumption
  · omega
theorem fin_self {q x : Int} (h0 : 0 ≤ x) (h1 : x < q) : fin q x = x := if_pos ⟨h0, h1⟩
theorem digs_zero {p : Int} : ∀ n, digs p n 0 = List.replicate n 0
  | 0 => rfl
  | n + 1 => by rw [digs, Int.zero_emod, Int.zero_ediv, digs_zero n, List.replicate_succ]
theorem digs_one {p : Int} (hp : 2 ≤ p) (n : Nat) : digs p (n + 1) 1 = 1 :: List.replicate n 0 := by
  rw [digs, Int.emod_eq_of_lt (by omega) (by omega), Int.ediv_eq_zero_of_lt (by omega) (by omega), digs_zero]
theorem ev_digs_zero {p : Int} (n : Nat) (t : Int) : ev (digs p n 0) t = 0 := by rw [digs_zero, ev_replicate_zero]
theorem ev_digs_one {p : Int} (hp : 2 ≤ p) (n : Nat) (t : Int) : ev (digs p (n + 1) 1) t = 1 := by rw [digs_one hp, ev_cons, ev_replicate_zero]; simp
section
variable {p : Int} {M : Nat} {mod : List Int}
theorem fadd_zero (hp : 2 ≤ p) (hM : (lowOf M mod).length = M) {x : Int} (h0 : 0 ≤ x) (h1 : x < p ^ M) : fadd p M mod x 0 = x := by
  have hq : (0 : Int) < p ^ M := Int.pow_pos (by omega)
  unfold fadd
  rw [fin_self h0 h1, fin_self (Int.le_refl 0) hq, redl_eq (r := digs p M x) (by omega) (by rw [hM]; exact digs_red (by omega) M x) (Cong.of_ev fun t => by rw [ev_padd, ev_digs_zero]; omega), ev_digs (by omega) M x h0 h1]
theorem zero_fadd (hp : 2 ≤ p) (hM : (lowOf M mod).length = M) {x : Int} (h0 : 0 ≤ x) (h1 : x < p ^ M) : fadd p M mod 0 x = x := by
  have hq : (0 : Int) < p ^ M := Int.pow_pos (by omega)
  unfold fadd
  rw [fin_self h0 h1, fin_self (Int.le_refl 0) hq, redl_eq (r := digs p M x) (by omega) (by rw [hM]; exact digs_red (by omega) M x) (Cong.of_ev fun t => by rw [ev_padd, ev_digs_zero]; omega), ev_digs (by omega) M x h0 h1]
theorem fmul_one (hp : 2 ≤ p) (hM : (lowOf M mod).length = M) (hM1 : 1 ≤ M) {x : Int} (h0 : 0 ≤ x) (h1 : x < p ^ M) : fmul p M mod x 1 = x := by
  obtain ⟨n, rfl⟩ : ∃ n, M = n + 1 := ⟨M - 1, by omega⟩
  have hq : (1 : Int) < p ^ (n + 1) := by
    have : (1 : Int) ≤ p ^ n := Int.pow_pos (by omega)
    have h2 : 1 * p ≤ p ^ n * p := Int.mul_le_mul_of_nonneg_right this (by omega)
    rw [Int.pow_succ]; omega
  unfold fmul
  rw [fin_self h0 h1, fin_self (by omega) hq, redl_eq (r := digs p (n + 1) x) (by omega) (by rw [hM]; exact digs_red (by omega) (n + 1) x) (Cong.of_ev fun t => by rw [ev_pmul, ev_digs_one hp]; omega), ev_digs (by omega) (n + 1) x h0 h1]
theorem fmul_zero (hp : 2 ≤ p) (hM : (lowOf M mod).length = M) (x : Int) : fmul p M mod x 0 = 0 := by
  have hq : (0 : Int) < p ^ M := Int.pow_pos (by omega)
  unfold fmul
  rw [fin_self (Int.le_refl 0) hq, redl_eq (r := digs p M 0) (by omega) (by rw [hM]; exact digs_red (by omega) M 0) (Cong.of_ev fun t => by rw [ev_pmul, ev_digs_zero]; omega), ev_digs_zero]
end
/-- entrywise sums -/
def zadd (p : Int) : List Int → List Int → List Int
  | a :: as, b :: bs => (a + b) % p :: zadd p as bs
  | _, _ => []
theorem zadd_length (p : Int) : ∀ a b : List Int, a.length = b.length → (zadd p a b).length = a.length
  | [], [], _ => rfl
  | a :: as, b :: bs, h => by simp only [zadd, List.length_cons, zadd_length p as bs (by simpa using h)]
  | [], b :: bs, h => by simp at h
  | a :: as, [], h => by simp at h
theorem zadd_getD (p : Int) : ∀ (a b : List Int) (i : Nat), a.length = b.length → i < a.length → (zadd p a b).getD i 0 = (a.getD i 0 + b.getD i 0) % p
  | [], _, _, _, h => by simp at h
  | a :: as, [], _, h, _ => by simp at h
  | a :: as, b :: bs, 0, _, _ => rfl
  | a :: as, b :: bs, i + 1, h, hi => by
    simp only [zadd, List.getD_cons_succ]
    exact zadd_getD p as bs i (by simpa using h) (by simpa using hi)
theorem zadd_red {p : Int} (hp : 0 < p) : ∀ (a b : List Int), a.length = b.length → Red p a.length (zadd p a b) := by
  intro a b h
  refine ⟨zadd_length p a b h, ?_⟩
  induction a generalizing b with
  | nil => intro c hc; cases b <;> simp [zadd] at hc
  | cons x a ih =>
    cases b with
    | nil => simp at h
    | cons y b =>
      intro c hc
      rcases List.mem_cons.1 hc with h' | h'
      · rw [h']; exact ⟨Int.emod_nonneg _ (by omega), Int.emod_lt_of_pos _ hp⟩
      · exact ih b (by simpa using h) c h'
theorem zadd_cong (p : Int) (low a b : List Int) (h : a.length = b.length) : Cong p low (zadd p a b) (padd a b) := by
  refine Cong.of_mod fun i => ?_
  rw [padd_getD]
  by_cases hi : i < a.length
  · rw [zadd_getD p a b i h hi]
    exact ⟨-((a.getD i 0 + b.getD i 0) / p), by have := Int.emod_add_mul_ediv (a.getD i 0 + b.getD i 0) p; rw [Int.mul_neg]; omega⟩
  · rw [getD_none' _ _ (by rw [zadd_length p a b h]; omega), getD_none' a i (by omega), getD_none' b i (by omega)]
    exact ⟨0, by simp⟩
end Cw
/- Binomial coefficients and the lengths of binary numbers. -/
namespace Cw
/-- the number of subsets with k elements of a set with n elements -/
def binom : Nat → Nat → Nat
  | _, 0 => 1
  | 0, _ + 1 => 0
  | n + 1, k + 1 => binom n k + binom n (k + 1)
@[simp] theorem binom_zero (n : Nat) : binom n 0 = 1 := by cases n <;> rfl
theorem binom_succ (n k : Nat) : binom (n + 1) (k + 1) = binom n k + binom n (k + 1) := rfl
theorem binom_gt : ∀ (n k : Nat), n < k → binom n k = 0 := by
  intro n
  induction n with
  | zero => intro k h; obtain ⟨k, rfl⟩ : ∃ m, k = m + 1 := ⟨k - 1, by omega⟩; rfl
  | succ n ih =>
    intro k h
    obtain ⟨k, rfl⟩ : ∃ m, k = m + 1 := ⟨k - 1, by omega⟩
    rw [binom_succ, ih k (by omega), ih (k + 1) (by omega)]
theorem binom_self (n : Nat) : binom n n = 1 := by
  induction n with
  | zero => rfl
  | succ n ih => rw [binom_succ, ih, binom_gt n (n + 1) (by omega)]
theorem binom_step : ∀ (n k : Nat), binom n (k + 1) * (k + 1) = binom n k * (n - k) := by
  intro n
  induction n with
  | zero => intro k; cases k <;> simp [binom]
  | succ n ih =>
    intro k
    rw [binom_succ, Nat.add_mul, ih k]
    cases k with
    | zero => simp; omega
    | succ k =>
      rw [binom_succ n k, Nat.add_mul, Nat.add_sub_add_right]
      have h1 := ih k
      have e : binom n (k + 1) * (k + 1 + 1) = binom n (k + 1) * (k + 1) + binom n (k + 1) := by rw [Nat.mul_succ]
      rw [e, h1]
      by_cases hk : k + 1 ≤ n
      · have e2 : n - k = (n - (k + 1)) + 1 := by omega
        rw [e2, Nat.mul_add, Nat.mul_add]; omega
      · have h2 : binom n (k + 1) = 0 := binom_gt _ _ (by omega)
        rw [h2]
        have h3 : n - k = 0 := by omega
        simp [h3]
theorem binom_div (n k : Nat) : binom n k * (n - k) / (k + 1) = binom n (k + 1) := by
  rw [← binom_step]; exact Nat.mul_div_cancel _ (by omega)
theorem binom_symm_add : ∀ (a b : Nat), binom (a + b) a = binom (a + b) b := by
  intro a
  induction a with
  | zero => intro b; simp [binom_self]
  | succ a iha =>
    intro b
    induction b with
    | zero => simp [binom_self]
    | succ b ihb =>
      have e1 : a + 1 + (b + 1) = (a + (b + 1)) + 1 := by omega
      have e2 : a + (b + 1) = (a + 1) + b := by omega
      rw [e1, binom_succ, binom_succ, iha (b + 1)]
      have := ihb
      rw [e2, this, ← e2]
      omega
theorem binom_symm {n k : Nat} (h : k ≤ n) : binom n (n - k) = binom n k := by
  have := binom_symm_add (n - k) k
  rwa [show n - k + k = n by omega] at this
theorem binom_le (n : Nat) : ∀ k, binom n k ≤ 2 ^ n := by
  induction n with
  | zero => intro k; cases k <;> simp [binom]
  | succ n ih =>
    intro k
    cases k with
    | zero => simp; exact Nat.one_le_two_pow
    | succ k => rw [binom_succ, Nat.pow_succ]; have := ih k; have := ih (k + 1); omega
/-- the number of binary digits -/
def blen (n : Nat) : Nat := if n = 0 then 0 else Nat.log2 n + 1
theorem blen_zero : blen 0 = 0 := rfl
theorem blen_lt (n : Nat) : n < 2 ^ blen n := by
  unfold blen; split
  · rename_i h; simp [h]
  · exact Nat.lt_log2_self
theorem blen_le {n : Nat} (h : n ≠ 0) : 2 ^ (blen n - 1) ≤ n := by
  unfold blen; rw [if_neg h, Nat.add_sub_cancel]; exact Nat.log2_self_le h
theorem blen_pos {n : Nat} (h : n ≠ 0) : 0 < blen n := by unfold blen; rw [if_neg h]; omega
theorem blen_unique {n b : Nat} (h1 : 2 ^ b ≤ n) (h2 : n < 2 ^ (b + 1)) : blen n = b + 1 := by
  have hn : n ≠ 0 := by have := Nat.two_pow_pos b; omega
  have h3 := blen_le hn
  have h4 := blen_lt n
  have h5 := blen_pos hn
  have a1 : blen n - 1 < b + 1 := (Nat.pow_lt_pow_iff_right (by omega : 1 < 2)).1 (Nat.lt_of_le_of_lt h3 h2)
  have a2 : b < blen n := (Nat.pow_lt_pow_iff_right (by omega : 1 < 2)).1 (Nat.lt_of_le_of_lt h1 h4)
  omega
theorem blen_shift {lo hi s : Nat} (h : lo < 2 ^ s) (hh : hi ≠ 0) : blen (lo + hi * 2 ^ s) = s + blen hi := by
  have h1 := blen_le hh
  have h2 := blen_lt hi
  have h3 := blen_pos hh
  obtain ⟨b, hb⟩ : ∃ b, blen hi = b + 1 := ⟨blen hi - 1, by omega⟩
  rw [hb] at h1 h2
  rw [Nat.add_sub_cancel] at h1
  have h4 : hi * 2 ^ s + 2 ^ s ≤ 2 ^ (b + 1) * 2 ^ s := by rw [← Nat.succ_mul]; exact Nat.mul_le_mul_right _ h2
  have h5 : 2 ^ b * 2 ^ s ≤ hi * 2 ^ s := Nat.mul_le_mul_right _ h1
  rw [← Nat.pow_add] at h4 h5
  rw [blen_unique (b := b + s) (by omega) (by rw [show b + s + 1 = b + 1 + s by omega]; omega), hb]
  omega
theorem blen_one_iff (n : Nat) : blen n = 1 ↔ n = 1 := by
  constructor
  · intro h
    have h2 := blen_lt n
    rw [h] at h2
    have : n ≠ 0 := by intro h0; rw [h0, blen_zero] at h; omega
    omega
  · intro h; subst h; rfl
end Cw
/- The numbers of words in balls, as sums. -/
namespace Cw
/-- 2^a, kept closed -/
def P2 (a : Nat) : Nat := 2 ^ a
theorem P2_mul (a b : Nat) : P2 a * P2 b = P2 (a + b) := (Nat.pow_add 2 a b).symm
theorem P2_le {a b : Nat} (h : a ≤ b) : P2 a ≤ P2 b := Nat.pow_le_pow_right (by omega) h
theorem P2_len {x a L : Nat} (h : x ≤ P2 a) (ha : a < 32 * L) : (enc x).length ≤ L :=
  enc_length_le _ (Nat.lt_of_le_of_lt h (two_pow_lt ha))
theorem P2_lt {x a L : Nat} (h : x ≤ P2 a) (ha : a < 32 * L) : x < 4294967296 ^ L := Nat.lt_of_le_of_lt h (two_pow_lt ha)
/-- powers of numbers up to 256 -/
theorem pow_P2 {m i k : Nat} (hm : m ≤ P2 k) : m ^ i ≤ P2 (k * i) := by
  have h1 : m ^ i ≤ (2 ^ k) ^ i := Nat.pow_le_pow_left hm i
  rwa [← Nat.pow_mul] at h1
theorem le_P2_8 {m : Nat} (hm : m ≤ 256) : m ≤ P2 8 := hm
theorem mul_P2 {x y a b : Nat} (hx : x ≤ P2 a) (hy : y ≤ P2 b) : x * y ≤ P2 (a + b) := by
  have := Nat.mul_le_mul hx hy
  rwa [P2_mul] at this
/-- the sum over j below i of C(n, j) m^j -/
def psum (m n : Nat) : Nat → Nat
  | 0 => 0
  | i + 1 => psum m n i + binom n i * m ^ i
theorem pow_small {m i : Nat} (hm : m ≤ 256) (hi : i ≤ 65) : m ^ i ≤ P2 520 :=
  Nat.le_trans (pow_P2 (le_P2_8 hm)) (P2_le (by omega))
theorem binom_small {n : Nat} (hn : n ≤ 64) (k : Nat) : binom n k ≤ P2 64 :=
  Nat.le_trans (binom_le n k) (P2_le hn)
theorem term_small {m n i : Nat} (hm : m ≤ 256) (hn : n ≤ 64) (hi : i ≤ 65) : binom n i * m ^ i ≤ P2 584 :=
  Nat.le_trans (mul_P2 (binom_small hn i) (pow_small hm hi)) (P2_le (by omega))
theorem psum_small' {m n : Nat} (hm : m ≤ 256) (hn : n ≤ 64) : ∀ i, i ≤ 66 → psum m n i ≤ i * P2 584 := by
  intro i
  induction i with
  | zero => intro _; simp [psum]
  | succ i ih =>
    intro hi
    have h1 := ih (by omega)
    have h2 := term_small hm hn (i := i) (by omega)
    rw [psum, Nat.succ_mul]
    exact Nat.add_le_add h1 h2
theorem psum_small {m n i : Nat} (hm : m ≤ 256) (hn : n ≤ 64) (hi : i ≤ 66) : psum m n i ≤ P2 592 := by
  refine Nat.le_trans (psum_small' hm hn i hi) ?_
  have h1 : i ≤ P2 8 := Nat.le_trans hi (by decide)
  exact Nat.le_trans (mul_P2 h1 (Nat.le_refl (P2 584))) (P2_le (by omega))
theorem psum_len {m n i : Nat} (hm : m ≤ 256) (hn : n ≤ 64) (hi : i ≤ 66) : (enc (psum m n i)).length ≤ 1001 := P2_len (psum_small hm hn hi) (by omega)
end Cw
/- Sums over lists, and words at a distance from a word: the volume of a ball. -/
namespace Cw
/-- the sum of f over a list -/
def sm {α : Type} (l : List α) (f : α → Nat) : Nat := (l.map f).sum
@[simp] theorem sm_nil {α : Type} (f : α → Nat) : sm [] f = 0 := rfl
@[simp] theorem sm_cons {α : Type} (a : α) (l : List α) (f : α → Nat) : sm (a :: l) f = f a + sm l f := by simp [sm]
theorem sm_append {α : Type} (l m : List α) (f : α → Nat) : sm (l ++ m) f = sm l f + sm m f := by simp [sm]
theorem sm_map {α β : Type} (l : List α) (g : α → β) (f : β → Nat) : sm (l.map g) f = sm l (fun x => f (g x)) := by
  simp [sm, List.map_map]; rfl
theorem sm_congr {α : Type} {l : List α} {f g : α → Nat} (h : ∀ x ∈ l, f x = g x) : sm l f = sm l g := by
  induction l with
  | nil => rfl
  | cons a l ih => rw [sm_cons, sm_cons, h a (by simp), ih (fun x hx => h x (by simp [hx]))]
theorem sm_const {α : Type} (c : Nat) (l : List α) : sm l (fun _ => c) = l.length * c := by
  induction l with
  | nil => simp
  | cons a l ih => simp only [sm_cons, ih, List.length_cons, Nat.add_mul, Nat.one_mul]; omega
theorem sm_flatMap {α β : Type} (l : List α) (g : α → List β) (f : β → Nat) : sm (l.flatMap g) f = sm l (fun a => sm (g a) f) := by
  induction l with
  | nil => rfl
  | cons a l ih => simp only [List.flatMap_cons, sm_append, sm_cons, ih]
theorem sm_length_filter {α : Type} (l : List α) (p : α → Bool) : sm l (fun x => if p x then 1 else 0) = (l.filter p).length := by
  induction l with
  | nil => rfl
  | cons a l ih => rw [sm_cons, ih, List.filter_cons]; split <;> simp <;> omega
/-- the places in which two words differ -/
def dist : List Int → List Int → Nat
  | a :: as, b :: bs => (if a = b then 0 else 1) + dist as bs
  | _, _ => 0
@[simp] theorem dist_nil (b : List Int) : dist [] b = 0 := by cases b <;> rfl
@[simp] theorem dist_nil' (b : List Int) : dist b [] = 0 := by cases b <;> rfl
@[simp] theorem dist_cons (a b : Int) (as bs : List Int) : dist (a :: as) (b :: bs) = (if a = b then 0 else 1) + dist as bs := rfl
/-- the letters 0 to q - 1 -/
def letters (q : Nat) : List Int := (List.range q).map (fun i : Nat => (i : Int))
/-- all words of length n -/
def allw (q : Nat) : Nat → List (List Int)
  | 0 => [[]]
  | n + 1 => (letters q).flatMap (fun a => (allw q n).map (fun w => a :: w))
/-- a word of length n over q letters -/
def IsW (q n : Nat) (w : List Int) : Prop := w.length = n ∧ ∀ x ∈ w, 0 ≤ x ∧ x < (q : Int)
theorem IsW.tail {q n : Nat} {a : Int} {w : List Int} (h : IsW q (n + 1) (a :: w)) : IsW q n w :=
  ⟨by simpa using h.1, fun x hx => h.2 x (by simp [hx])⟩
theorem IsW.head {q n : Nat} {a : Int} {w : List Int} (h : IsW q n (a :: w)) : 0 ≤ a ∧ a < (q : Int) := h.2 a (by simp)
theorem IsW.take {q n k : Nat} {w : List Int} (h : IsW q n w) (hk : k ≤ n) : IsW q k (w.take k) :=
  ⟨by rw [List.length_take, h.1]; omega, fun x hx => h.2 x (List.mem_of_mem_take hx)⟩
theorem letters_length (q : Nat) : (letters q).length = q := by simp [letters]
/-- a letter among the letters: A for itself, B for each other one -/
theorem sm_letters {q : Nat} {b : Int} (hb : 0 ≤ b ∧ b < (q : Int)) (A B : Nat) : sm (letters q) (fun a => if a = b then A else B) = A + (q - 1) * B := by
  induction q with
  | zero => omega
  | succ q ih =>
    have e : letters (q + 1) = letters q ++ [(q : Int)] := by simp [letters, List.range_succ]
    rw [e, sm_append, sm_cons, sm_nil]
    by_cases h : b = (q : Int)
    · subst h
      have : sm (letters q) (fun a => if a = (q : Int) then A else B) = sm (letters q) (fun _ => B) := by
        refine sm_congr fun x hx => ?_
        simp only [letters, List.mem_map, List.mem_range] at hx
        obtain ⟨i, hi, rfl⟩ := hx
        rw [if_neg (by omega)]
      rw [this, sm_const, letters_length, if_pos rfl, Nat.add_sub_cancel]; omega
    · rw [ih ⟨hb.1, by omega⟩, if_neg (fun e => h e.symm), Nat.add_sub_cancel]
      have : q * B = (q - 1) * B + B := by
        have hq : q = q - 1 + 1 := by omega
        rw [← Nat.succ_mul]; congr 1
      omega
theorem psum_succ (m n i : Nat) : psum m n (i + 1) = psum m n i + binom n i * m ^ i := by rw [psum]
/-- balls grow by one place -/
theorem psum_rec (m n : Nat) : ∀ r, psum m (n + 1) (r + 1) = psum m n (r + 1) + m * psum m n r
  | 0 => by simp [psum]
  | r + 1 => by
    have ih := psum_rec m n r
    rw [psum_succ, ih, psum_succ m n (r + 1), psum_succ m n r, binom_succ, Nat.add_mul, Nat.pow_succ, Nat.mul_add]
    have : binom n r * (m ^ r * m) = m * (binom n r * m ^ r) := by rw [← Nat.mul_assoc, Nat.mul_comm]
    omega
/-- the number of words at distance less than r from a word -/
theorem ball {q : Nat} : ∀ {n : Nat} {c : List Int}, IsW q n c → ∀ r, sm (allw q n) (fun x => if dist x c < r then 1 else 0) = psum (q - 1) n r
  | 0, c, h, r => by
    have : c = [] := List.length_eq_zero_iff.1 h.1
    subst this
    cases r with
    | zero => simp [allw, psum]
    | succ r =>
      have : ∀ r, psum (q - 1) 0 (r + 1) = 1 := by
        intro r
        induction r with
        | zero => simp [psum]
        | succ r ih => rw [psum_succ, ih, binom_gt 0 (r + 1) (by omega)]; simp
      rw [this]
      simp [allw]
  | n + 1, c, h, r => by
    cases c with
    | nil => simp [IsW] at h
    | cons b c =>
      have hc := h.tail
      simp only [allw, sm_flatMap, sm_map]
      have e : ∀ a, sm (allw q n) (fun w => if dist (a :: w) (b :: c) < r then 1 else 0) = if a = b then psum (q - 1) n r else psum (q - 1) n (r - 1) := by
        intro a
        by_cases hab : a = b
        · rw [if_pos hab, ← ball hc r]
          refine sm_congr fun w _ => ?_
          have hd : dist (a :: w) (b :: c) = dist w c := by rw [dist_cons, if_pos hab, Nat.zero_add]
          by_cases hw : dist w c < r
          · rw [if_pos hw, if_pos (by omega)]
          · rw [if_neg hw, if_neg (by omega)]
        · rw [if_neg hab, ← ball hc (r - 1)]
          refine sm_congr fun w _ => ?_
          have hd : dist (a :: w) (b :: c) = 1 + dist w c := by rw [dist_cons, if_neg hab]
          by_cases hw : dist w c < r - 1
          · rw [if_pos hw, if_pos (by omega)]
          · rw [if_neg hw, if_neg (by omega)]
      rw [sm_congr (fun a _ => e a), sm_letters h.head]
      cases r with
      | zero => simp [psum]
      | succ r => rw [psum_rec, Nat.add_sub_cancel]
end Cw
/- The bound of Elias in plain numbers: the least quotient over the radii. -/
namespace Cw
end Cw
/- No list of words with distance d has more words than the bounds of Singleton, Hamming, Plotkin and Elias say. -/
namespace Cw
/-- any two of the words differ in at least d places -/
def Apart (d : Nat) (W : List (List Int)) : Prop := W.Pairwise (fun a b => d ≤ dist a b)
def AllW (q n : Nat) (W : List (List Int)) : Prop := ∀ c ∈ W, IsW q n c
theorem AllW.cons {q n : Nat} {c : List Int} {W : List (List Int)} (h : AllW q n (c :: W)) : IsW q n c ∧ AllW q n W :=
  ⟨h c (by simp), fun x hx => h x (by simp [hx])⟩
theorem Apart.filter {d : Nat} {W : List (List Int)} (h : Apart d W) (p : List Int → Bool) : Apart d (W.filter p) := List.Pairwise.filter p h
end Cw
/- All words, as the reference lists them: by unit vectors; and how many of them lie in a ball. -/
namespace Cw
/-- the words that are 0 from place i on -/
def spanS (q n : Nat) : Nat → List (List Int)
  | 0 => [List.replicate n 0]
  | i + 1 => (letters q).flatMap (fun a => (spanS q n i).map (fun w => w.set i a))
theorem letters_mem {q : Nat} {a : Int} (h : a ∈ letters q) : 0 ≤ a ∧ a < (q : Int) := by
  simp only [letters, List.mem_map, List.mem_range] at h
  obtain ⟨i, hi, rfl⟩ := h
  omega
theorem spanS_mem {q n : Nat} (hq : 1 ≤ q) : ∀ {i : Nat} {w : List Int}, w ∈ spanS q n i → IsW q n w ∧ ∀ z, i ≤ z → w.getD z 0 = 0
  | 0, w, h => by
    have : w = List.replicate n 0 := by simpa [spanS] using h
    subst this
    refine ⟨⟨by simp, fun x hx => by rw [List.eq_of_mem_replicate hx]; omega⟩, fun z _ => ?_⟩
    rw [List.getD_eq_getElem?_getD, List.getElem?_replicate]; split <;> rfl
  | i + 1, w, h => by
    simp only [spanS, List.mem_flatMap, List.mem_map] at h
    obtain ⟨a, ha, v, hv, rfl⟩ := h
    obtain ⟨h1, h2⟩ := spanS_mem hq hv
    have ha' := letters_mem ha
    refine ⟨⟨by rw [List.length_set]; exact h1.1, fun x hx => ?_⟩, fun z hz => ?_⟩
    · rcases List.mem_or_eq_of_mem_set hx with h' | h'
      · exact h1.2 x h'
      · rw [h']; exact ha'
    · rw [List.getD_eq_getElem?_getD, List.getElem?_set_ne (by omega), ← List.getD_eq_getElem?_getD]
      exact h2 z (by omega)
theorem spanS_length (q n : Nat) : ∀ i, (spanS q n i).length = q ^ i
  | 0 => rfl
  | i + 1 => by
    have ih := spanS_length q n i
    simp only [spanS, List.length_flatMap, List.length_map, ih]
    have h : (List.map (fun _ => q ^ i) (letters q)).sum = sm (letters q) (fun _ => q ^ i) := rfl
    rw [h, sm_const, letters_length, Nat.pow_succ, Nat.mul_comm]
theorem dist_snoc : ∀ (x y : List Int) (a b : Int), x.length = y.length → dist (x ++ [a]) (y ++ [b]) = dist x y + (if a = b then 0 else 1)
  | [], [], a, b, _ => by simp
  | x :: xs, y :: ys, a, b, h => by
    rw [List.cons_append, List.cons_append, dist_cons, dist_cons, dist_snoc xs ys a b (by simpa using h)]; omega
  | [], y :: ys, _, _, h => by simp at h
  | x :: xs, [], _, _, h => by simp at h
theorem spanS_ball' {q n : Nat} (hq : 1 ≤ q) {c : List Int} (hc : IsW q n c) : ∀ i, i ≤ n → ∀ t, sm (spanS q n i) (fun w => if dist (w.take i) (c.take i) < t then 1 else 0) = psum (q - 1) i t
  | 0, _, t => by
    simp only [spanS, sm_cons, sm_nil, List.take_zero, dist_nil]
    have := ball (q := q) (n := 0) (c := []) ⟨rfl, fun x hx => by simp at hx⟩ t
    rw [← this]
    simp [allw]
  | i + 1, hi, t => by
    have ih := spanS_ball' hq hc i (by omega)
    have hci : 0 ≤ c.getD i 0 ∧ c.getD i 0 < (q : Int) := by
      rw [List.getD_eq_getElem?_getD, List.getElem?_eq_getElem (by rw [hc.1]; omega)]
      exact hc.2 _ (List.getElem_mem _)
    have hct : c.take (i + 1) = c.take i ++ [c.getD i 0] := by
      rw [List.take_add_one, List.getD_eq_getElem?_getD, List.getElem?_eq_getElem (by rw [hc.1]; omega)]; rfl
    simp only [spanS, sm_flatMap, sm_map]
    have e : ∀ a, sm (spanS q n i) (fun w => if dist ((w.set i a).take (i + 1)) (c.take (i + 1)) < t then 1 else 0) = if a = c.getD i 0 then psum (q - 1) i t else psum (q - 1) i (t - 1) := by
      intro a
      have hd : ∀ w ∈ spanS q n i, dist ((w.set i a).take (i + 1)) (c.take (i + 1)) = dist (w.take i) (c.take i) + (if a = c.getD i 0 then 0 else 1) := by
        intro w hw
        have hwl := (spanS_mem hq hw).1.1
        have : (w.set i a).take (i + 1) = w.take i ++ [a] := by
          rw [List.take_add_one, List.take_set_of_le (Nat.le_refl i), List.getElem?_set_self (by omega)]; rfl
        rw [this, hct, dist_snoc _ _ _ _ (by rw [List.length_take, List.length_take, hwl, hc.1])]
      by_cases ha : a = c.getD i 0
      · rw [if_pos ha, ← ih t]
        refine sm_congr fun w hw => ?_
        have := hd w hw
        rw [if_pos ha] at this
        by_cases hh : dist (w.take i) (c.take i) < t
        · rw [if_pos hh, if_pos (by omega)]
        · rw [if_neg hh, if_neg (by omega)]
      · rw [if_neg ha, ← ih (t - 1)]
        refine sm_congr fun w hw => ?_
        have := hd w hw
        rw [if_neg ha] at this
        by_cases hh : dist (w.take i) (c.take i) < t - 1
        · rw [if_pos hh, if_pos (by omega)]
        · rw [if_neg hh, if_neg (by omega)]
    rw [sm_congr (fun a _ => e a), sm_letters hci]
    cases t with
    | zero => simp [psum]
    | succ t => rw [psum_rec, Nat.add_sub_cancel]
theorem spanS_ball {q n : Nat} (hq : 1 ≤ q) {c : List Int} (hc : IsW q n c) (t : Nat) : sm (spanS q n n) (fun w => if dist w c < t then 1 else 0) = psum (q - 1) n t := by
  rw [← spanS_ball' hq hc n (Nat.le_refl _) t]
  refine sm_congr fun w hw => ?_
  rw [List.take_of_length_le (by rw [(spanS_mem hq hw).1.1]; exact Nat.le_refl _), List.take_of_length_le (by rw [hc.1]; exact Nat.le_refl _)]
theorem dist_eq_zero : ∀ {a b : List Int}, a.length = b.length → dist a b = 0 → a = b
  | [], [], _, _ => rfl
  | a :: as, b :: bs, h, hd => by
    rw [dist_cons] at hd
    by_cases hab : a = b
    · rw [if_pos hab] at hd
      have := dist_eq_zero (a := as) (b := bs) (by simpa using h) (by omega)
      rw [hab, this]
    · rw [if_neg hab] at hd; omega
  | [], b :: bs, h, _ => by simp at h
  | a :: as, [], h, _ => by simp at h
end Cw
