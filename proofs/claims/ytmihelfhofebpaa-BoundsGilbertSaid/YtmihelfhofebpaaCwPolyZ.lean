/- Integer polynomials as lists of coefficients, by their values. -/
namespace Cw

/-- the value at t of the polynomial with these coefficients, constant first -/
def ev : List Int → Int → Int
  | [], _ => 0
  | c :: cs, t => c + t * ev cs t

def padd : List Int → List Int → List Int
  | [], b => b
  | x :: a, [] => x :: a
  | x :: a, y :: b => (x + y) :: padd a b

def pscale (c : Int) (a : List Int) : List Int := a.map (fun x => c * x)

def pmul : List Int → List Int → List Int
  | [], _ => []
  | x :: a, b => padd (pscale x b) (0 :: pmul a b)

@[simp] theorem ev_nil (t : Int) : ev [] t = 0 := rfl
@[simp] theorem ev_cons (c : Int) (cs : List Int) (t : Int) : ev (c :: cs) t = c + t * ev cs t := rfl

theorem ev_padd (a b : List Int) (t : Int) : ev (padd a b) t = ev a t + ev b t := by
  induction a generalizing b with
  | nil => simp [padd]
  | cons x a ih =>
    cases b with
    | nil => simp [padd]
    | cons y b => simp only [padd, ev_cons, ih, Int.mul_add]; omega

theorem ev_pscale (c : Int) (a : List Int) (t : Int) : ev (pscale c a) t = c * ev a t := by
  induction a with
  | nil => simp [pscale]
  | cons x a ih =>
    have ih' : ev (List.map (fun x => c * x) a) t = c * ev a t := ih
    simp only [pscale, List.map_cons, ev_cons, ih', Int.mul_add]
    rw [← Int.mul_assoc, ← Int.mul_assoc, Int.mul_comm t c]

theorem ev_pmul (a b : List Int) (t : Int) : ev (pmul a b) t = ev a t * ev b t := by
  induction a with
  | nil => simp [pmul]
  | cons x a ih =>
    simp only [pmul, ev_padd, ev_pscale, ev_cons, ih, Int.zero_add, Int.add_mul, Int.mul_assoc]

theorem ev_append (a b : List Int) (t : Int) : ev (a ++ b) t = ev a t + t ^ a.length * ev b t := by
  induction a with
  | nil => simp
  | cons x a ih =>
    simp only [List.cons_append, ev_cons, ih, List.length_cons, Int.pow_succ, Int.mul_add]
    rw [← Int.mul_assoc, Int.mul_comm t (t ^ a.length)]; omega

theorem ev_replicate_zero (n : Nat) (t : Int) : ev (List.replicate n 0) t = 0 := by
  induction n with
  | zero => rfl
  | succ n ih => simp [List.replicate_succ, ih]

theorem ev_zeros (a : List Int) (h : ∀ c ∈ a, c = 0) (t : Int) : ev a t = 0 := by
  induction a with
  | nil => rfl
  | cons x a ih =>
    rw [ev_cons, h x (by simp), ih (fun c hc => h c (by simp [hc]))]; simp

theorem ev_large_zero (a : List Int) : ∀ N : Int, (∀ t : Int, N ≤ t → ev a t = 0) → ∀ c ∈ a, c = 0 := by
  induction a with
  | nil => intro N _ c hc; simp at hc
  | cons x a ih =>
    intro N h
    have hx : x = 0 := by
      have h1 := h (max N 0 + x.natAbs + 1) (by omega)
      rw [ev_cons] at h1
      have hd : (max N 0 + x.natAbs + 1) ∣ x := ⟨- ev a (max N 0 + x.natAbs + 1), by rw [Int.mul_neg]; omega⟩
      by_cases hx : x = 0
      · exact hx
      · have hp : 0 < x.natAbs := by omega
        have h2 : (max N 0 + x.natAbs + 1).natAbs ∣ x.natAbs := Int.natAbs_dvd_natAbs.2 hd
        have := Nat.le_of_dvd hp h2
        omega
    have ha := ih (max N 1) (by
      intro t ht
      have h1 := h t (by omega)
      rw [ev_cons, hx, Int.zero_add] at h1
      rcases Int.mul_eq_zero.1 h1 with h2 | h2
      · omega
      · exact h2)
    intro c hc
    rcases List.mem_cons.1 hc with h1 | h1
    · rw [h1, hx]
    · exact ha c h1

theorem padd_length (a b : List Int) : (padd a b).length = max a.length b.length := by
  induction a generalizing b with
  | nil => simp [padd]
  | cons x a ih =>
    cases b with
    | nil => simp [padd]
    | cons y b => simp only [padd, List.length_cons, ih]; omega

theorem pscale_length (c : Int) (a : List Int) : (pscale c a).length = a.length := by simp [pscale]

theorem pmul_length (a b : List Int) (hb : b ≠ []) : (pmul a b).length ≤ a.length + b.length - 1 := by
  have hb' : 0 < b.length := List.length_pos_iff.2 hb
  induction a with
  | nil => simp [pmul]
  | cons x a ih =>
    simp only [pmul, padd_length, pscale_length, List.length_cons]
    omega

theorem padd_getD (a b : List Int) (i : Nat) : (padd a b).getD i 0 = a.getD i 0 + b.getD i 0 := by
  induction a generalizing b i with
  | nil => simp [padd]
  | cons x a ih =>
    cases b with
    | nil => simp [padd]
    | cons y b =>
      cases i with
      | zero => simp [padd]
      | succ i => simpa [padd] using ih b i

theorem pscale_getD (c : Int) (a : List Int) (i : Nat) : (pscale c a).getD i 0 = c * a.getD i 0 := by
  induction a generalizing i with
  | nil => simp [pscale]
  | cons x a ih =>
    cases i with
    | zero => simp [pscale]
    | succ i => simpa [pscale] using ih i

/-- polynomials with the same values have the same coefficients -/
theorem coef_ext (a b : List Int) (h : ∀ t, ev a t = ev b t) (i : Nat) : a.getD i 0 = b.getD i 0 := by
  have h1 := ev_large_zero (padd a (pscale (-1) b)) 0 (by
    intro t _; rw [ev_padd, ev_pscale, h t]; omega)
  have h2 : (padd a (pscale (-1) b)).getD i 0 = 0 := by
    by_cases hi : i < (padd a (pscale (-1) b)).length
    · rw [List.getD_eq_getElem?_getD, List.getElem?_eq_getElem hi]
      exact h1 _ (List.getElem_mem hi)
    · rw [List.getD_eq_getElem?_getD, List.getElem?_eq_none (by omega)]; rfl
  rw [padd_getD, pscale_getD] at h2
  omega

/-- a and b are congruent modulo p and the monic polynomial with the low coefficients low -/
def Cong (p : Int) (low : List Int) (a b : List Int) : Prop :=
  ∃ h u : List Int, ∀ t, ev a t = ev b t + ev (low ++ [1]) t * ev h t + p * ev u t

theorem Cong.refl (p : Int) (low a : List Int) : Cong p low a a := ⟨[], [], fun t => by simp⟩

theorem Cong.of_ev {p : Int} {low a b : List Int} (h : ∀ t, ev a t = ev b t) : Cong p low a b :=
  ⟨[], [], fun t => by simp [h t]⟩

theorem Cong.symm {p : Int} {low a b : List Int} (h : Cong p low a b) : Cong p low b a := by
  obtain ⟨x, u, e⟩ := h
  refine ⟨pscale (-1) x, pscale (-1) u, fun t => ?_⟩
  rw [e t, ev_pscale, ev_pscale, Int.mul_left_comm, Int.mul_left_comm p]; omega

theorem Cong.trans {p : Int} {low a b c : List Int} (h : Cong p low a b) (k : Cong p low b c) : Cong p low a c := by
  obtain ⟨x, u, e⟩ := h
  obtain ⟨y, v, f⟩ := k
  refine ⟨padd x y, padd u v, fun t => ?_⟩
  rw [e t, f t, ev_padd, ev_padd, Int.mul_add, Int.mul_add]; omega

theorem Cong.add {p : Int} {low a b c d : List Int} (h : Cong p low a b) (k : Cong p low c d) : Cong p low (padd a c) (padd b d) := by
  obtain ⟨x, u, e⟩ := h
  obtain ⟨y, v, f⟩ := k
  refine ⟨padd x y, padd u v, fun t => ?_⟩
  rw [ev_padd, ev_padd, e t, f t, ev_padd, ev_padd, Int.mul_add, Int.mul_add]; omega

theorem Cong.mul_left {p : Int} {low a b : List Int} (c : List Int) (h : Cong p low a b) : Cong p low (pmul c a) (pmul c b) := by
  obtain ⟨x, u, e⟩ := h
  refine ⟨pmul c x, pmul c u, fun t => ?_⟩
  rw [ev_pmul, ev_pmul, e t, ev_pmul, ev_pmul, Int.mul_add, Int.mul_add, Int.mul_left_comm, Int.mul_left_comm p]

theorem Cong.mul_comm (p : Int) (low a b : List Int) : Cong p low (pmul a b) (pmul b a) :=
  Cong.of_ev fun t => by rw [ev_pmul, ev_pmul, Int.mul_comm]

theorem Cong.mul {p : Int} {low a b c d : List Int} (h : Cong p low a b) (k : Cong p low c d) : Cong p low (pmul a c) (pmul b d) :=
  ((k.mul_left a).trans (Cong.mul_comm ..)).trans ((h.mul_left d).trans (Cong.mul_comm ..))

/-- coefficientwise congruence modulo p -/
theorem Cong.of_mod {p : Int} {low a b : List Int} (h : ∀ i, p ∣ a.getD i 0 - b.getD i 0) : Cong p low a b := by
  suffices H : ∀ a b : List Int, (∀ i, p ∣ a.getD i 0 - b.getD i 0) → ∃ u : List Int, ∀ t, ev a t = ev b t + p * ev u t by
    obtain ⟨u, e⟩ := H a b h
    exact ⟨[], u, fun t => by rw [e t]; simp⟩
  intro a
  induction a with
  | nil =>
    intro b
    induction b with
    | nil => intro _; exact ⟨[], fun t => by simp⟩
    | cons y b ih =>
      intro h
      obtain ⟨u, e⟩ := ih (fun i => by simpa using h (i + 1))
      obtain ⟨k, hk⟩ := h 0
      refine ⟨k :: u, fun t => ?_⟩
      have := e t
      simp only [ev_nil, ev_cons, List.getD_cons_zero, List.getD_nil, Int.mul_add] at *
      rw [Int.mul_left_comm p t, ← Int.sub_eq_zero.2 this]
      have h3 : t * (0 - (ev b t + p * ev u t)) = -(t * ev b t) - t * (p * ev u t) := by
        rw [Int.mul_sub, Int.mul_add]; omega
      have h4 : t * (0 - (ev b t + p * ev u t)) = 0 := by rw [← this]; simp
      omega
  | cons x a ih =>
    intro b h
    cases b with
    | nil =>
      obtain ⟨u, e⟩ := ih [] (fun i => by simpa using h (i + 1))
      obtain ⟨k, hk⟩ := h 0
      refine ⟨k :: u, fun t => ?_⟩
      have h1 := e t
      simp only [ev_nil, ev_cons, List.getD_cons_zero, List.getD_nil, Int.mul_add, Int.zero_add] at *
      rw [h1, Int.mul_left_comm p t]; omega
    | cons y b =>
      obtain ⟨u, e⟩ := ih b (fun i => by simpa using h (i + 1))
      obtain ⟨k, hk⟩ := h 0
      refine ⟨k :: u, fun t => ?_⟩
      have h1 := e t
      simp only [ev_cons, List.getD_cons_zero, Int.mul_add] at *
      rw [h1, Int.mul_left_comm p t, Int.mul_add]; omega

theorem getD_append_left' (a b : List Int) (i : Nat) (h : i < a.length) : (a ++ b).getD i 0 = a.getD i 0 := by
  rw [List.getD_eq_getElem?_getD, List.getElem?_append_left h, ← List.getD_eq_getElem?_getD]
theorem getD_append_right' (a b : List Int) (i : Nat) (h : a.length ≤ i) : (a ++ b).getD i 0 = b.getD (i - a.length) 0 := by
  rw [List.getD_eq_getElem?_getD, List.getElem?_append_right h, ← List.getD_eq_getElem?_getD]
theorem getD_none' (a : List Int) (i : Nat) (h : a.length ≤ i) : a.getD i 0 = 0 := by
  rw [List.getD_eq_getElem?_getD, List.getElem?_eq_none h]; rfl
theorem ev_monic (low h : List Int) (t : Int) : ev (low ++ [1]) t * ev h t = ev (pmul low h) t + ev (List.replicate low.length 0 ++ h) t := by
  rw [ev_append, ev_pmul, ev_append, ev_replicate_zero, List.length_replicate]; simp [Int.add_mul]

/-- a multiple of a monic polynomial that is, modulo p, of lower degree, is 0 modulo p -/
theorem monic_multiple (p : Int) (low : List Int) : ∀ (n : Nat) (h u r : List Int), h.length = n → r.length ≤ low.length →
    (∀ t, ev r t = ev (low ++ [1]) t * ev h t + p * ev u t) → ∃ v : List Int, ∀ t, ev r t = p * ev v t := by
  intro n
  induction n with
  | zero =>
    intro h u r hn _ e
    rw [List.length_eq_zero_iff.1 hn] at e
    exact ⟨u, fun t => by rw [e t]; simp⟩
  | succ n ih =>
    intro h u r hn hr e
    obtain ⟨h0, c, rfl⟩ : ∃ h0 c, h = h0 ++ [c] := ⟨h.dropLast, h.getLast (by intro h'; simp [h'] at hn), (List.dropLast_concat_getLast _).symm⟩
    have hl : h0.length = n := by simpa using hn
    have h1 := coef_ext r (padd (padd (pmul low (h0 ++ [c])) (List.replicate low.length 0 ++ (h0 ++ [c]))) (pscale p u))
      (fun t => by rw [ev_padd, ev_padd, ev_pscale, ← ev_monic, e t]) (low.length + n)
    rw [padd_getD, padd_getD, pscale_getD, getD_none' r _ (by omega), getD_none' (pmul low (h0 ++ [c])) _ (by
        have := pmul_length low (h0 ++ [c]) (by simp); simp at this; omega),
      getD_append_right' _ _ _ (by simp), List.length_replicate, show low.length + n - low.length = n by omega, getD_append_right' _ _ _ (by omega), hl] at h1
    simp only [Nat.sub_self, List.getD_cons_zero, Int.zero_add] at h1
    have hc : c = p * (-(u.getD (low.length + n) 0)) := by rw [Int.mul_neg]; omega
    obtain ⟨v, hv⟩ : ∃ k, c = p * k := ⟨_, hc⟩
    apply ih h0 (padd u (pmul (low ++ [1]) (List.replicate n 0 ++ [v]))) r hl hr
    intro t
    rw [e t, ev_append h0, ev_padd, ev_pmul, ev_append (List.replicate n 0), ev_replicate_zero, List.length_replicate, hl, hv]
    simp only [ev_cons, ev_nil, Int.mul_zero, Int.add_zero, Int.zero_add, Int.mul_add]
    rw [Int.mul_left_comm (t ^ n) p, Int.mul_left_comm _ p]; omega

/-- reduced lists: so many entries, each from 0 to p-1 -/
def Red (p : Int) (M : Nat) (a : List Int) : Prop := a.length = M ∧ ∀ c ∈ a, 0 ≤ c ∧ c < p

theorem Red.getD {p : Int} {M : Nat} {a : List Int} (h : Red p M a) (hp : 0 < p) (i : Nat) : 0 ≤ a.getD i 0 ∧ a.getD i 0 < p := by
  by_cases hi : i < a.length
  · rw [List.getD_eq_getElem?_getD, List.getElem?_eq_getElem hi]
    exact h.2 _ (List.getElem_mem hi)
  · rw [getD_none' a i (by omega)]; omega

theorem small_eq {p x y : Int} (hx : 0 ≤ x ∧ x < p) (hy : 0 ≤ y ∧ y < p) (h : p ∣ x - y) : x = y := by
  obtain ⟨k, hk⟩ := h
  have h1 : k = 0 := by
    by_cases h0 : k = 0
    · exact h0
    · rcases Int.lt_or_gt_of_ne h0 with h2 | h2
      · have : p * k ≤ p * (-1) := Int.mul_le_mul_of_nonneg_left (by omega) (by omega)
        omega
      · have : p * 1 ≤ p * k := Int.mul_le_mul_of_nonneg_left (by omega) (by omega)
        omega
  rw [h1] at hk; omega

theorem ext_getD {a b : List Int} (hl : a.length = b.length) (h : ∀ i, i < a.length → a.getD i 0 = b.getD i 0) : a = b := by
  apply List.ext_getElem hl
  intro i h1 h2
  have := h i h1
  rw [List.getD_eq_getElem?_getD, List.getD_eq_getElem?_getD, List.getElem?_eq_getElem h1, List.getElem?_eq_getElem h2] at this
  exact this

/-- congruent reduced lists are equal -/
theorem Cong.eq {p : Int} {low a b : List Int} (hp : 0 < p) (ha : Red p low.length a) (hb : Red p low.length b) (h : Cong p low a b) : a = b := by
  obtain ⟨x, u, e⟩ := h
  obtain ⟨v, hv⟩ := monic_multiple p low x.length x u (padd a (pscale (-1) b)) rfl (by rw [padd_length, pscale_length, ha.1, hb.1]; omega) (fun t => by
    rw [ev_padd, ev_pscale, e t]; omega)
  refine ext_getD (ha.1.trans hb.1.symm) fun i _ => small_eq (ha.getD hp i) (hb.getD hp i) ?_
  have h1 := coef_ext (padd a (pscale (-1) b)) (pscale p v) (fun t => by rw [hv t, ev_pscale]) i
  rw [padd_getD, pscale_getD, pscale_getD] at h1
  exact ⟨v.getD i 0, by omega⟩

end Cw
