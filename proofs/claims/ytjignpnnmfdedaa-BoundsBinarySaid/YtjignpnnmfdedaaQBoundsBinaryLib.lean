/- Integer polynomials as lists of coefficients, by their values. -/

namespace Cw
/-- the value at t of the polynomial with these coefficients, constant first -/
def ev : List Int → Int → Int
  | [], _ => 0
  | c :: cs, t => c + t * ev cs t
def padd : List Int → List Int → List Int
  | [], b => b
  | x :: a, [] => x :: a
  | x :: a, y :: b => (x + y) :: padd a b
def pscale (c : Int) (a : List Int) : List Int := a.map (fun x => c * x)
def pmul : List Int → List Int → List Int
  | [], _ => []
  | x :: a, b => padd (pscale x b) (0 :: pmul a b)
@[simp] theorem ev_nil (t : Int) : ev [] t = 0 := rfl
@[simp] theorem ev_cons (c : Int) (cs : List Int) (t : Int) : ev (c :: cs) t = c + t * ev cs t := rfl
theorem ev_padd (a b : List Int) (t : Int) : ev (padd a b) t = ev a t + ev b t := by
  induction a generalizing b with
  | nil => simp [padd]
  | cons x a ih =>
    cases b with
    | nil => simp [padd]
    | cons y b => simp only [padd, ev_cons, ih, Int.mul_add]; omega
theorem ev_pscale (c : Int) (a : List Int) (t : Int) : ev (pscale c a) t = c * ev a t := by
  induction a with
  | nil => simp [pscale]
  | cons x a ih =>
    have ih' : ev (List.map (fun x => c * x) a) t = c * ev a t := ih
    simp only [pscale, List.map_cons, ev_cons, ih', Int.mul_add]
    rw [← Int.mul_assoc, ← Int.mul_assoc, Int.mul_comm t c]
theorem ev_pmul (a b : List Int) (t : Int) : ev (pmul a b) t = ev a t * ev b t := by
  induction a with
  | nil => simp [pmul]
  | cons x a ih =>
    simp only [pmul, ev_padd, ev_pscale, ev_cons, ih, Int.zero_add, Int.add_mul, Int.mul_assoc]
theorem ev_append (a b : List Int) (t : Int) : ev (a ++ b) t = ev a t + t ^ a.length * ev b t := by
  induction a with
  | nil => simp
  | cons x a ih =>
    simp only [List.cons_append, ev_cons, ih, List.length_cons, Int.pow_succ, Int.mul_add]
    rw [← Int.mul_assoc, Int.mul_comm t (t ^ a.length)]; omega
theorem ev_replicate_zero (n : Nat) (t : Int) : ev (List.replicate n 0) t = 0 := by
  induction n with
  | zero => rfl
  | succ n ih => simp [List.replicate_succ, ih]
theorem ev_zeros (a : List Int) (h : ∀ c ∈ a, c = 0) (t : Int) : ev a t = 0 := by
  induction a with
  | nil => rfl
  | cons x a ih =>
    rw [ev_cons, h x (by simp), ih (fun c hc => h c (by simp [hc]))]; simp
/-- a and b are congruent modulo p and the monic polynomial with the low coefficients low -/
def Cong (p : Int) (low : List Int) (a b : List Int) : Prop :=
  ∃ h u : List Int, ∀ t, ev a t = ev b t + ev (low ++ [1]) t * ev h t + p * ev u t
theorem Cong.refl (p : Int) (low a : List Int) : Cong p low a a := ⟨[], [], fun t => by simp⟩
theorem Cong.of_ev {p : Int} {low a b : List Int} (h : ∀ t, ev a t = ev b t) : Cong p low a b :=
  ⟨[], [], fun t => by simp [h t]⟩
theorem Cong.symm {p : Int} {low a b : List Int} (h : Cong p low a b) : Cong p low b a := by
  obtain ⟨x, u, e⟩ := h
  refine ⟨pscale (-1) x, pscale (-1) u, fun t => ?_⟩
  rw [e t, ev_pscale, ev_pscale, Int.mul_left_comm, Int.mul_left_comm p]; omega
theorem Cong.trans {p : Int} {low a b c : List Int} (h : Cong p low a b) (k : Cong p low b c) : Cong p low a c := by
  obtain ⟨x, u, e⟩ := h
  obtain ⟨y, v, f⟩ := k
  refine ⟨padd x y, padd u v, fun t => ?_⟩
  rw [e t, f t, ev_padd, ev_padd, Int.mul_add, Int.mul_add]; omega
theorem Cong.add {p : Int} {low a b c d : List Int} (h : Cong p low a b) (k : Cong p low c d) : Cong p low (padd a c) (padd b d) := by
  obtain ⟨x, u, e⟩ := h
  obtain ⟨y, v, f⟩ := k
  refine ⟨padd x y, padd u v, fun t => ?_⟩
  rw [ev_padd, ev_padd, e t, f t, ev_padd, ev_padd, Int.mul_add, Int.mul_add]; omega
theorem Cong.mul_comm (p : Int) (low a b : List Int) : Cong p low (pmul a b) (pmul b a) :=
  Cong.of_ev fun t => by rw [ev_pmul, ev_pmul, Int.mul_comm]
theorem getD_none' (a : List Int) (i : Nat) (h : a.length ≤ i) : a.getD i 0 = 0 := by
  rw [List.getD_eq_getElem?_getD, List.getElem?_eq_none h]; rfl
/-- reduced lists: so many entries, each from 0 to p-1 -/
def Red (p : Int) (M : Nat) (a : List Int) : Prop := a.length = M ∧ ∀ c ∈ a, 0 ≤ c ∧ c < p
theorem Red.getD {p : Int} {M : Nat} {a : List Int} (h : Red p M a) (hp : 0 < p) (i : Nat) : 0 ≤ a.getD i 0 ∧ a.getD i 0 < p := by
  by_cases hi : i < a.length
  · rw [List.getD_eq_getElem?_getD, List.getElem?_eq_getElem hi]
    exact h.2 _ (List.getElem_mem hi)
  · rw [getD_none' a i (by omega)]; omega
theorem ext_getD {a b : List Int} (hl : a.length = b.length) (h : ∀ i, i < a.length → a.getD i 0 = b.getD i 0) : a = b := by
  apply List.ext_getElem hl
  intro i h1 h2
  have := h i h1
  rw [List.getD_eq_getElem?_getD, List.getD_eq_getElem?_getD, List.getElem?_eq_getElem h1, List.getElem?_eq_getElem h2] at this
  exact this
end Cw
/- Lists of limbs in base 2^32, and the numbers that they stand for. -/
namespace Cw
theorem ev_set (B : Int) (xs : List Int) : ∀ (i : Nat) (v : Int), i < xs.length → ev (xs.set i v) B = ev xs B + (v - xs.getD i 0) * B ^ i := by
  induction xs with
  | nil => intro i v h; simp at h
  | cons x xs ih =>
    intro i v h
    cases i with
    | zero => simp; omega
    | succ i =>
      have := ih i v (by simpa using h)
      simp only [List.set_cons_succ, ev_cons, this, List.getD_cons_succ, Int.pow_succ]
      grind
theorem ev_take_succ (B : Int) (xs : List Int) : ∀ (i : Nat), i < xs.length → ev (xs.take (i + 1)) B = ev (xs.take i) B + xs.getD i 0 * B ^ i := by
  induction xs with
  | nil => intro i h; simp at h
  | cons x xs ih =>
    intro i h
    cases i with
    | zero => simp
    | succ i =>
      have := ih i (by simpa using h)
      simp only [List.take_succ_cons, ev_cons, this, List.getD_cons_succ, Int.pow_succ]
      grind
theorem ev_take_succ' (B : Int) (xs : List Int) (i : Nat) : ev (xs.take (i + 1)) B = ev (xs.take i) B + xs.getD i 0 * B ^ i := by
  by_cases h : i < xs.length
  · exact ev_take_succ B xs i h
  · rw [List.take_of_length_le (by omega), List.take_of_length_le (by omega), getD_none' xs i (by omega)]; simp
/-- i limbs of a and b are added; c is carried -/
def PlusInv (a b out : List Int) (c : Int) (i : Nat) : Prop :=
  ev out 4294967296 + c * 4294967296 ^ i = ev (a.take i) 4294967296 + ev (b.take i) 4294967296
theorem PlusInv.step {a b out : List Int} {c : Int} {i : Nat} (h : PlusInv a b out c i) (hi : i < out.length) (hz : out.getD i 0 = 0) :
    PlusInv a b (out.set i ((a.getD i 0 + c + b.getD i 0) % 4294967296)) ((a.getD i 0 + c + b.getD i 0) / 4294967296) (i + 1) := by
  unfold PlusInv at *
  rw [ev_set _ _ _ _ hi, hz, ev_take_succ', ev_take_succ', Int.pow_succ]
  have e1 := Int.emod_add_mul_ediv (a.getD i 0 + c + b.getD i 0) 4294967296
  generalize (4294967296 : Int) ^ i = P at *
  generalize ev out 4294967296 = E at *
  generalize (a.getD i 0 + c + b.getD i 0) % 4294967296 = r at *
  generalize (a.getD i 0 + c + b.getD i 0) / 4294967296 = q at *
  have e2 : r = a.getD i 0 + c + b.getD i 0 - 4294967296 * q := by omega
  rw [e2]
  grind
theorem PlusInv.start (a b : List Int) (n : Nat) : PlusInv a b (List.replicate n 0) 0 0 := by
  unfold PlusInv; rw [ev_replicate_zero]; simp
theorem PlusInv.last {a b out : List Int} {c : Int} {i : Nat} (h : PlusInv a b out c i) (ha : a.length ≤ i) (hb : b.length ≤ i) (hi : i < out.length) (hz : out.getD i 0 = 0) :
    ev (out.set i c) 4294967296 = ev a 4294967296 + ev b 4294967296 := by
  unfold PlusInv at h
  rw [List.take_of_length_le ha, List.take_of_length_le hb] at h
  rw [ev_set _ _ _ _ hi, hz, ← h]
  have : (c - 0) = c := by omega
  rw [this]
/-- a.take i is multiplied, and a[i] with j limbs of b; c is carried -/
def TimesInv (a b out : List Int) (c : Int) (i j : Nat) : Prop :=
  ev out 4294967296 + c * 4294967296 ^ (i + j) = ev (a.take i) 4294967296 * ev b 4294967296 + a.getD i 0 * ev (b.take j) 4294967296 * 4294967296 ^ i
theorem TimesInv.step {a b out : List Int} {c : Int} {i j : Nat} (h : TimesInv a b out c i j) (hi : i + j < out.length) :
    TimesInv a b (out.set (i + j) ((a.getD i 0 * b.getD j 0 + out.getD (i + j) 0 + c) % 4294967296)) ((a.getD i 0 * b.getD j 0 + out.getD (i + j) 0 + c) / 4294967296) i (j + 1) := by
  unfold TimesInv at *
  rw [ev_set _ _ _ _ hi, ev_take_succ' _ b, ← Nat.add_assoc, Int.pow_succ]
  have e1 := Int.emod_add_mul_ediv (a.getD i 0 * b.getD j 0 + out.getD (i + j) 0 + c) 4294967296
  generalize (a.getD i 0 * b.getD j 0 + out.getD (i + j) 0 + c) % 4294967296 = r at *
  generalize (a.getD i 0 * b.getD j 0 + out.getD (i + j) 0 + c) / 4294967296 = q at *
  rw [Int.pow_add] at *
  generalize (4294967296 : Int) ^ i = P at *
  generalize (4294967296 : Int) ^ j = Q at *
  generalize ev out 4294967296 = E at *
  generalize ev (b.take j) 4294967296 = F at *
  generalize ev (a.take i) 4294967296 * ev b 4294967296 = G at *
  grind
theorem TimesInv.next {a b out : List Int} {c : Int} {i : Nat} (h : TimesInv a b out c i b.length) (hi : i + b.length < out.length) (hz : out.getD (i + b.length) 0 = 0) :
    TimesInv a b (out.set (i + b.length) c) 0 (i + 1) 0 := by
  unfold TimesInv at *
  rw [ev_set _ _ _ _ hi, hz, ev_take_succ' _ a]
  rw [List.take_length] at h
  simp only [List.take_zero, ev_nil, Int.mul_zero, Int.zero_mul, Int.add_zero, Int.add_mul, Int.sub_zero]
  rw [h, Int.mul_right_comm]
theorem TimesInv.start (a b : List Int) (n : Nat) : TimesInv a b (List.replicate n 0) 0 0 0 := by
  unfold TimesInv; rw [ev_replicate_zero]; simp
theorem TimesInv.last {a b out : List Int} {i : Nat} (h : TimesInv a b out 0 i 0) (hi : a.length ≤ i) : ev out 4294967296 = ev a 4294967296 * ev b 4294967296 := by
  unfold TimesInv at h
  rw [List.take_of_length_le hi] at h
  simpa using h
/-- a is divided by d from the top down to index i; r is the rest -/
def DigInv (a : List Int) (d : Int) (out : List Int) (r : Int) (i : Nat) : Prop :=
  ev out 4294967296 * d + r * 4294967296 ^ i + ev (a.take i) 4294967296 = ev a 4294967296
theorem DigInv.step {a out : List Int} {d r : Int} {i : Nat} (h : DigInv a d out r (i + 1)) (hi : i < out.length) (hz : out.getD i 0 = 0) :
    DigInv a d (out.set i ((r * 4294967296 + a.getD i 0) / d)) ((r * 4294967296 + a.getD i 0) % d) i := by
  unfold DigInv at *
  rw [ev_set _ _ _ _ hi, hz]
  rw [ev_take_succ', Int.pow_succ] at h
  have e1 := Int.emod_add_mul_ediv (r * 4294967296 + a.getD i 0) d
  generalize (r * 4294967296 + a.getD i 0) % d = r' at *
  generalize (r * 4294967296 + a.getD i 0) / d = q at *
  generalize (4294967296 : Int) ^ i = P at *
  rw [← h]
  grind
theorem DigInv.start (a : List Int) (d : Int) (n : Nat) : DigInv a d (List.replicate n 0) 0 a.length := by
  unfold DigInv; rw [ev_replicate_zero]; simp
theorem DigInv.last {a out : List Int} {d r : Int} (h : DigInv a d out r 0) : ev out 4294967296 * d + r = ev a 4294967296 := by
  unfold DigInv at h; simpa using h
theorem dig_small {r d x : Int} (hr : 0 ≤ r ∧ r < d) (hx : 0 ≤ x ∧ x < 4294967296) (hd : 0 < d) : 0 ≤ (r * 4294967296 + x) / d ∧ (r * 4294967296 + x) / d < 4294967296 := by
  refine ⟨Int.ediv_nonneg (by omega) (by omega), Int.ediv_lt_of_lt_mul hd ?_⟩
  have : (r + 1) * 4294967296 ≤ d * 4294967296 := Int.mul_le_mul_of_nonneg_right (by omega) (by omega)
  rw [Int.mul_comm 4294967296 d]; omega
/-- limbs: each from 0 to 2^32 - 1 -/
def Lim (xs : List Int) : Prop := ∀ c ∈ xs, 0 ≤ c ∧ c < 4294967296
/-- xs are limbs that stand for n -/
def Is (xs : List Int) (n : Nat) : Prop := Lim xs ∧ ev xs 4294967296 = (n : Int)
theorem Lim.nil : Lim [] := fun c h => by simp at h
theorem Lim.getD {xs : List Int} (h : Lim xs) (i : Nat) : 0 ≤ xs.getD i 0 ∧ xs.getD i 0 < 4294967296 := by
  by_cases hi : i < xs.length
  · rw [List.getD_eq_getElem?_getD, List.getElem?_eq_getElem hi]
    exact h _ (List.getElem_mem hi)
  · rw [getD_none' xs i (by omega)]; omega
theorem Lim.set {xs : List Int} (h : Lim xs) (i : Nat) {v : Int} (h0 : 0 ≤ v) (h1 : v < 4294967296) : Lim (xs.set i v) := by
  intro c hc
  rcases List.mem_or_eq_of_mem_set hc with h' | h'
  · exact h c h'
  · rw [h']; exact ⟨h0, h1⟩
theorem Lim.cons {x : Int} {xs : List Int} (h0 : 0 ≤ x) (h1 : x < 4294967296) (h : Lim xs) : Lim (x :: xs) := by
  intro c hc
  rcases List.mem_cons.1 hc with h' | h'
  · rw [h']; exact ⟨h0, h1⟩
  · exact h c h'
theorem Lim.tail {x : Int} {xs : List Int} (h : Lim (x :: xs)) : Lim xs := fun c hc => h c (by simp [hc])
theorem Lim.head {x : Int} {xs : List Int} (h : Lim (x :: xs)) : 0 ≤ x ∧ x < 4294967296 := h x (by simp)
theorem Lim.append {a b : List Int} (h : Lim a) (k : Lim b) : Lim (a ++ b) := by
  intro c hc
  rcases List.mem_append.1 hc with h' | h'
  · exact h c h'
  · exact k c h'
theorem Lim.zeros (n : Nat) : Lim (List.replicate n 0) := by
  intro c hc
  rw [List.eq_of_mem_replicate hc]; omega
theorem Lim.take {xs : List Int} (h : Lim xs) (n : Nat) : Lim (xs.take n) := fun c hc => h c (List.mem_of_mem_take hc)
theorem Lim.drop {xs : List Int} (h : Lim xs) (n : Nat) : Lim (xs.drop n) := fun c hc => h c (List.mem_of_mem_drop hc)
theorem Lim.nonneg {xs : List Int} (h : Lim xs) : 0 ≤ ev xs 4294967296 := by
  induction xs with
  | nil => simp
  | cons x xs ih => rw [ev_cons]; have := ih h.tail; have := h.head; omega
theorem Lim.lt {xs : List Int} (h : Lim xs) : ev xs 4294967296 < 4294967296 ^ xs.length := by
  induction xs with
  | nil => simp
  | cons x xs ih => rw [ev_cons, List.length_cons, Int.pow_succ]; have := ih h.tail; have := h.head; omega
theorem Lim.is {xs : List Int} (h : Lim xs) : Is xs (ev xs 4294967296).toNat := ⟨h, by have := h.nonneg; omega⟩
theorem Is.nil : Is [] 0 := ⟨Lim.nil, rfl⟩
theorem Is.cons {c : Int} {xs : List Int} {n : Nat} (h0 : 0 ≤ c) (h1 : c < 4294967296) (h : Is xs n) : Is (c :: xs) (c.toNat + 4294967296 * n) :=
  ⟨Lim.cons h0 h1 h.1, by rw [ev_cons, h.2]; omega⟩
/-- the limbs of n, without zeros at the end -/
def enc (n : Nat) : List Int :=
  if n = 0 then [] else ((n % 4294967296 : Nat) : Int) :: enc (n / 4294967296)
termination_by n
decreasing_by omega
theorem enc_zero : enc 0 = [] := by rw [enc]; rfl
theorem enc_pos {n : Nat} (h : n ≠ 0) : enc n = ((n % 4294967296 : Nat) : Int) :: enc (n / 4294967296) := by rw [enc, if_neg h]
theorem enc_is (n : Nat) : Is (enc n) n := by
  induction n using Nat.strongRecOn with
  | ind n ih =>
    by_cases h : n = 0
    · subst h; rw [enc_zero]; exact Is.nil
    · rw [enc_pos h]
      have := Is.cons (c := ((n % 4294967296 : Nat) : Int)) (by omega) (by omega) (ih (n / 4294967296) (by omega))
      have e : ((n % 4294967296 : Nat) : Int).toNat + 4294967296 * (n / 4294967296) = n := by omega
      rwa [e] at this
theorem enc_lim (n : Nat) : Lim (enc n) := (enc_is n).1
theorem enc_ne {n : Nat} (h : n ≠ 0) : enc n ≠ [] := by rw [enc_pos h]; simp
/-- limbs that do not end with 0 are the limbs of their number -/
theorem eq_enc {xs : List Int} : ∀ {n : Nat}, Is xs n → xs.getLast? ≠ some 0 → xs = enc n := by
  induction xs with
  | nil =>
    intro n h _
    have h1 : (0 : Int) = n := h.2
    have : n = 0 := by omega
    rw [this, enc_zero]
  | cons c xs ih =>
    intro n h hl
    have hx := h.1.tail.is
    have hc := h.1.head
    have hn := h.2
    rw [ev_cons, hx.2] at hn
    have e2 : xs.getLast? ≠ some 0 := by
      intro h'
      rcases List.eq_nil_or_concat xs with h1 | ⟨l, x, h1⟩
      · rw [h1] at h'; simp at h'
      · rw [h1] at h' hl
        rw [List.concat_eq_append] at h' hl
        have h4 : ((c :: l) ++ [x]).getLast? = some x := List.getLast?_concat
        have h5 : (l ++ [x]).getLast? = some x := by simp
        rw [← List.cons_append, h4] at hl; rw [h5] at h'
        exact hl h'
    have ih' := ih hx e2
    generalize (ev xs 4294967296).toNat = m at *
    have h3 : n ≠ 0 := by
      intro h0
      have hm : m = 0 := by omega
      rw [hm, enc_zero] at ih'
      rw [ih'] at hl
      have : c = 0 := by omega
      rw [this] at hl; simp at hl
    rw [enc_pos h3, show n % 4294967296 = c.toNat by omega, show n / 4294967296 = m by omega, ← ih']
    have : ((c.toNat : Nat) : Int) = c := by omega
    rw [this]
theorem enc_last (n : Nat) : (enc n).getLast? ≠ some 0 := by
  induction n using Nat.strongRecOn with
  | ind n ih =>
    by_cases h : n = 0
    · rw [h, enc_zero]; simp
    · rw [enc_pos h]
      by_cases h1 : n / 4294967296 = 0
      · rw [h1, enc_zero]; simp; omega
      · have := ih (n / 4294967296) (by omega)
        rw [List.getLast?_cons]
        intro h2
        rcases h3 : (enc (n / 4294967296)).getLast? with _ | z
        · rw [List.getLast?_eq_none_iff] at h3; exact enc_ne h1 h3
        · rw [h3] at h2 this; simp at h2 this; exact this h2
theorem enc_length_le (L : Nat) : ∀ {n : Nat}, n < 4294967296 ^ L → (enc n).length ≤ L := by
  induction L with
  | zero => intro n h; have : n = 0 := by simpa using h
            rw [this, enc_zero]; simp
  | succ L ih =>
    intro n h
    by_cases h0 : n = 0
    · rw [h0, enc_zero]; simp
    · rw [enc_pos h0, List.length_cons]
      have := ih (n := n / 4294967296) (by rw [Nat.pow_succ] at h; exact Nat.div_lt_of_lt_mul (by rw [Nat.mul_comm]; exact h))
      omega
theorem nat_lt_pow {n L : Nat} (h : (n : Int) < 4294967296 ^ L) : n < 4294967296 ^ L := by
  apply Int.ofNat_lt.1
  rw [Int.natCast_pow]
  exact h
theorem two_pow_lt {a L : Nat} (h : a < 32 * L) : 2 ^ a < 4294967296 ^ L := by
  rw [show (4294967296 : Nat) = 2 ^ 32 by rfl, ← Nat.pow_mul]
  exact Nat.pow_lt_pow_right (by omega) h
theorem lt_of_enc_length {L n : Nat} (h : (enc n).length ≤ L) : n < 4294967296 ^ L := by
  have h1 := (enc_lim n).lt
  rw [(enc_is n).2] at h1
  have h2 : n < 4294967296 ^ (enc n).length := nat_lt_pow h1
  exact Nat.lt_of_lt_of_le h2 (Nat.pow_le_pow_right (by omega) h)
theorem Is.lt {xs : List Int} {n : Nat} (h : Is xs n) : n < 4294967296 ^ xs.length := by
  have h1 := h.1.lt
  rw [h.2] at h1
  exact nat_lt_pow h1
theorem Is.enc_length {xs : List Int} {n : Nat} (h : Is xs n) : (enc n).length ≤ xs.length := enc_length_le _ h.lt
theorem ev_drop_zeros (B : Int) (xs : List Int) (m : Nat) (h : ∀ i, m ≤ i → i < xs.length → xs.getD i 0 = 0) : ev (xs.take m) B = ev xs B := by
  have e : xs = xs.take m ++ xs.drop m := (List.take_append_drop m xs).symm
  rw [show ev xs B = ev (xs.take m ++ xs.drop m) B by rw [← e], ev_append, ev_zeros (xs.drop m)]
  · simp
  · intro c hc
    obtain ⟨i, hi, rfl⟩ := List.mem_iff_getElem.1 hc
    rw [List.length_drop] at hi
    have := h (m + i) (by omega) (by omega)
    rw [List.getD_eq_getElem?_getD, List.getElem?_eq_getElem (by omega)] at this
    simpa using this
theorem Is.take {xs : List Int} {n : Nat} (hx : Is xs n) (m : Nat) (h : ∀ i, m ≤ i → i < xs.length → xs.getD i 0 = 0) : Is (xs.take m) n :=
  ⟨hx.1.take m, by rw [ev_drop_zeros _ xs m h, hx.2]⟩
/-- what is left when the zeros at the end are cut off -/
theorem take_eq_enc {xs : List Int} {n : Nat} (hx : Is xs n) (m : Nat) (hm : m ≤ xs.length) (h : ∀ i, m ≤ i → i < xs.length → xs.getD i 0 = 0)
    (h0 : m = 0 ∨ xs.getD (m - 1) 0 ≠ 0) : xs.take m = enc n := by
  refine eq_enc (hx.take m h) ?_
  rcases h0 with h0 | h0
  · rw [h0]; simp
  · intro h1
    rw [List.getLast?_eq_getElem?] at h1
    have hl : (xs.take m).length = m := by rw [List.length_take]; omega
    rw [hl] at h1
    by_cases hz : m = 0
    · rw [hz] at h1; simp at h1
    · rw [List.getElem?_take, if_pos (by omega)] at h1
      exact h0 (by rw [List.getD_eq_getElem?_getD, h1]; rfl)
/-- the top limb -/
theorem enc_top {m : Nat} (h : m ≠ 0) : ∃ top low : Nat, (enc m).getD ((enc m).length - 1) 0 = (top : Int) ∧ 0 < top ∧ top < 4294967296 ∧ low < 2 ^ (32 * ((enc m).length - 1)) ∧ m = low + top * 2 ^ (32 * ((enc m).length - 1)) := by
  have hp : 0 < (enc m).length := List.length_pos_iff.2 (enc_ne h)
  have h1 := ev_take_succ' 4294967296 (enc m) ((enc m).length - 1)
  rw [show (enc m).length - 1 + 1 = (enc m).length by omega, List.take_length, (enc_is m).2] at h1
  have hd := (enc_lim m).getD ((enc m).length - 1)
  have hl := ((enc_lim m).take ((enc m).length - 1)).is
  have hlt := hl.lt
  have hln : ((enc m).take ((enc m).length - 1)).length = (enc m).length - 1 := by rw [List.length_take]; omega
  rw [hln] at hlt
  rw [hl.2] at h1
  have h0 : (enc m).getD ((enc m).length - 1) 0 ≠ 0 := by
    intro h2
    have h3 := enc_last m
    rw [List.getLast?_eq_getElem?] at h3
    rw [List.getD_eq_getElem?_getD, List.getElem?_eq_getElem (by omega)] at h2
    rw [List.getElem?_eq_getElem (by omega)] at h3
    exact h3 (congrArg some h2)
  have hpw : (4294967296 : Nat) ^ ((enc m).length - 1) = 2 ^ (32 * ((enc m).length - 1)) := by rw [Nat.pow_mul]
  rw [hpw] at hlt
  refine ⟨((enc m).getD ((enc m).length - 1) 0).toNat, (ev ((enc m).take ((enc m).length - 1)) 4294967296).toNat, by omega, by omega, by omega, hlt, ?_⟩
  apply Int.ofNat_inj.1
  rw [h1, ← hpw]
  rw [Int.natCast_add, Int.natCast_mul, Int.natCast_pow, Int.toNat_of_nonneg hd.1]
  rfl
theorem lset_self (xs : List Int) (i : Nat) (v : Int) (h : i < xs.length) : (xs.set i v).getD i 0 = v := by
  rw [List.getD_eq_getElem?_getD, List.getElem?_set_self h]; rfl
theorem lset_ne (xs : List Int) (i j : Nat) (v : Int) (h : i ≠ j) : (xs.set i v).getD j 0 = xs.getD j 0 := by
  rw [List.getD_eq_getElem?_getD, List.getElem?_set_ne h, ← List.getD_eq_getElem?_getD]
theorem lzeros_getD (n i : Nat) : (List.replicate n (0 : Int)).getD i 0 = 0 := by
  rw [List.getD_eq_getElem?_getD, List.getElem?_replicate]; split <;> rfl
theorem pow_le_lim {i j : Nat} (h : i ≤ j) : (4294967296 : Int) ^ i ≤ 4294967296 ^ j := by
  have h1 : (4294967296 : Nat) ^ i ≤ 4294967296 ^ j := Nat.pow_le_pow_right (by omega) h
  have h2 := Int.ofNat_le.2 h1
  rw [Int.natCast_pow, Int.natCast_pow] at h2
  exact h2
/-- the limbs from i on are alike -/
def TopEq (xs ys : List Int) (i : Nat) : Prop := ev xs 4294967296 - ev (xs.take i) 4294967296 = ev ys 4294967296 - ev (ys.take i) 4294967296
theorem TopEq.start {xs ys : List Int} {i : Nat} (hx : xs.length ≤ i) (hy : ys.length ≤ i) : TopEq xs ys i := by
  unfold TopEq; rw [List.take_of_length_le hx, List.take_of_length_le hy]; omega
theorem TopEq.step {xs ys : List Int} {i : Nat} (h : TopEq xs ys (i + 1)) (e : xs.getD i 0 = ys.getD i 0) : TopEq xs ys i := by
  unfold TopEq at *
  rw [ev_take_succ', ev_take_succ', e] at h
  generalize ys.getD i 0 * 4294967296 ^ i = t at *
  omega
theorem TopEq.zero {xs ys : List Int} (h : TopEq xs ys 0) : ev xs 4294967296 = ev ys 4294967296 := by
  unfold TopEq at h; simp at h; exact h
theorem TopEq.symm {xs ys : List Int} {i : Nat} (h : TopEq xs ys i) : TopEq ys xs i := Eq.symm h
theorem TopEq.lt {xs ys : List Int} {i : Nat} (h : TopEq xs ys (i + 1)) (hx : Lim xs) (hy : Lim ys) (hl : xs.getD i 0 < ys.getD i 0) : ev xs 4294967296 < ev ys 4294967296 := by
  unfold TopEq at h
  rw [ev_take_succ', ev_take_succ'] at h
  have h1 := (hx.take i).lt
  have h2 := (hy.take i).nonneg
  have h3 : (4294967296 : Int) ^ (xs.take i).length ≤ 4294967296 ^ i := pow_le_lim (by rw [List.length_take]; omega)
  have h4 : 0 ≤ (4294967296 : Int) ^ i := Int.pow_nonneg (by omega)
  have h5 : (xs.getD i 0 + 1) * 4294967296 ^ i ≤ ys.getD i 0 * 4294967296 ^ i := Int.mul_le_mul_of_nonneg_right (by omega) h4
  rw [Int.add_mul, Int.one_mul] at h5
  generalize xs.getD i 0 * 4294967296 ^ i = t at *
  generalize ys.getD i 0 * 4294967296 ^ i = u at *
  generalize (4294967296 : Int) ^ i = P at *
  generalize (4294967296 : Int) ^ (xs.take i).length = P' at *
  omega
/-- -1, 0 or 1 as m is below, at or above n -/
def cmpN (m n : Nat) : Int := if m < n then -1 else if n < m then 1 else 0
theorem cmpN_lt {m n : Nat} (h : m < n) : cmpN m n = -1 := if_pos h
theorem cmpN_gt {m n : Nat} (h : n < m) : cmpN m n = 1 := by unfold cmpN; rw [if_neg (by omega), if_pos h]
theorem cmpN_eq (m : Nat) : cmpN m m = 0 := by unfold cmpN; rw [if_neg (by omega), if_neg (by omega)]
theorem cmpN_nonpos {m n : Nat} : cmpN m n ≤ 0 ↔ m ≤ n := by unfold cmpN; split <;> (try split) <;> omega
theorem cmpN_neg {m n : Nat} : cmpN m n < 0 ↔ m < n := by unfold cmpN; split <;> (try split) <;> omega
theorem enc_length_mono {m n : Nat} (h : (enc m).length < (enc n).length) : m < n := by
  have h1 : m < 4294967296 ^ (enc m).length := lt_of_enc_length (Nat.le_refl _)
  have h2 : ¬ n < 4294967296 ^ (enc m).length := fun h2 => by have := enc_length_le _ h2; omega
  omega
theorem mul_lim {a b : Int} (ha : 0 ≤ a ∧ a < 4294967296) (hb : 0 ≤ b ∧ b < 4294967296) : 0 ≤ a * b ∧ a * b ≤ 18446744065119617025 := by
  refine ⟨Int.mul_nonneg ha.1 hb.1, ?_⟩
  have h1 : a * b ≤ 4294967295 * b := Int.mul_le_mul_of_nonneg_right (by omega) hb.1
  omega
end Cw
/- From some number of rounds on: how the answers of printed functions are put together. -/
namespace Cw
/-- from some number of rounds on, g answers r -/
def Evt {α : Type} (g : Nat → Option α) (r : α) : Prop := ∃ K, ∀ k, K ≤ k → g k = some r
theorem Evt.now {α : Type} (r : α) : Evt (fun _ => some r) r := ⟨0, fun _ _ => rfl⟩
theorem Evt.now' {α : Type} {r r' : α} (h : r' = r) : Evt (fun _ => some r') r := h ▸ Evt.now r'
theorem Evt.rounds {α : Type} {g : Nat → Option α} {r : α} (h : Evt g r) : ∃ k, g k = some r := by
  obtain ⟨K, h⟩ := h
  exact ⟨K, h K (Nat.le_refl _)⟩
theorem Evt.bind {α β : Type} {g : Nat → Option α} {f : Nat → α → Option β} {a : α} {r : β} (h : Evt g a) (k : Evt (fun n => f n a) r) : Evt (fun n => (g n).bind (f n)) r := by
  obtain ⟨K, h⟩ := h
  obtain ⟨K', k⟩ := k
  refine ⟨max K K', fun n hn => ?_⟩
  have h1 := h n (by omega)
  have h2 := k n (by omega)
  simp only [h1, Option.bind_some]
  exact h2
theorem Evt.step {α : Type} {g f : Nat → Option α} {r : α} (h : ∀ k, g (k + 1) = f k) (k : Evt f r) : Evt g r := by
  obtain ⟨K, k⟩ := k
  refine ⟨K + 1, fun n hn => ?_⟩
  obtain ⟨m, rfl⟩ : ∃ m, n = m + 1 := ⟨n - 1, by omega⟩
  rw [h]
  exact k m (by omega)
theorem Evt.congr {α : Type} {g f : Nat → Option α} {r : α} (h : ∀ k, g k = f k) (k : Evt f r) : Evt g r := by
  obtain ⟨K, k⟩ := k
  exact ⟨K, fun n hn => (h n).trans (k n hn)⟩
theorem Evt.pos {α : Type} {c : Prop} [Decidable c] {A B : Nat → Option α} {r : α} (h : c) (H : Evt A r) : Evt (fun k => if c then A k else B k) r :=
  Evt.congr (fun _ => if_pos h) H
theorem Evt.neg {α : Type} {c : Prop} [Decidable c] {A B : Nat → Option α} {r : α} (h : ¬ c) (H : Evt B r) : Evt (fun k => if c then A k else B k) r :=
  Evt.congr (fun _ => if_neg h) H
theorem Evt.fixed {α : Type} {o : Option α} {r : α} (h : o = some r) : Evt (fun _ => o) r := ⟨0, fun _ _ => h⟩
theorem Evt.bind0 {α β : Type} {o : Option α} {f : Nat → α → Option β} {a : α} {r : β} (h : o = some a) (k : Evt (fun n => f n a) r) : Evt (fun n => o.bind (f n)) r :=
  Evt.bind (Evt.fixed h) k
end Cw
/- Binomial coefficients and the lengths of binary numbers. -/
namespace Cw
/-- the number of subsets with k elements of a set with n elements -/
def binom : Nat → Nat → Nat
  | _, 0 => 1
  | 0, _ + 1 => 0
  | n + 1, k + 1 => binom n k + binom n (k + 1)
@[simp] theorem binom_zero (n : Nat) : binom n 0 = 1 := by cases n <;> rfl
theorem binom_succ (n k : Nat) : binom (n + 1) (k + 1) = binom n k + binom n (k + 1) := rfl
theorem binom_gt : ∀ (n k : Nat), n < k → binom n k = 0 := by
  intro n
  induction n with
  | zero => intro k h; obtain ⟨k, rfl⟩ : ∃ m, k = m + 1 := ⟨k - 1, by omega⟩; rfl
  | succ n ih =>
    intro k h
    obtain ⟨k, rfl⟩ : ∃ m, k = m + 1 := ⟨k - 1, by omega⟩
    rw [binom_succ, ih k (by omega), ih (k + 1) (by omega)]
theorem binom_self (n : Nat) : binom n n = 1 := by
  induction n with
  | zero => rfl
  | succ n ih => rw [binom_succ, ih, binom_gt n (n + 1) (by omega)]
theorem binom_step : ∀ (n k : Nat), binom n (k + 1) * (k + 1) = binom n k * (n - k) := by
  intro n
  induction n with
  | zero => intro k; cases k <;> simp [binom]
  | succ n ih =>
    intro k
    rw [binom_succ, Nat.add_mul, ih k]
    cases k with
    | zero => simp; omega
    | succ k =>
      rw [binom_succ n k, Nat.add_mul, Nat.add_sub_add_right]
      have h1 := ih k
      have e : binom n (k + 1) * (k + 1 + 1) = binom n (k + 1) * (k + 1) + binom n (k + 1) := by rw [Nat.mul_succ]
      rw [e, h1]
      by_cases hk : k + 1 ≤ n
      · have e2 : n - k = (n - (k + 1)) + 1 := by omega
        rw [e2, Nat.mul_add, Nat.mul_add]; omega
      · have h2 : binom n (k + 1) = 0 := binom_gt _ _ (by omega)
        rw [h2]
        have h3 : n - k = 0 := by omega
        simp [h3]
theorem binom_div (n k : Nat) : binom n k * (n - k) / (k + 1) = binom n (k + 1) := by
  rw [← binom_step]; exact Nat.mul_div_cancel _ (by omega)
theorem binom_symm_add : ∀ (a b : Nat), binom (a + b) a = binom (a + b) b := by
  intro a
  induction a with
  | zero => intro b; simp [binom_self]
  | succ a iha =>
    intro b
    induction b with
    | zero => simp [binom_self]
    | succ b ihb =>
      have e1 : a + 1 + (b + 1) = (a + (b + 1)) + 1 := by omega
      have e2 : a + (b + 1) = (a + 1) + b := by omega
      rw [e1, binom_succ, binom_succ, iha (b + 1)]
      have := ihb
      rw [e2, this, ← e2]
      omega
theorem binom_symm {n k : Nat} (h : k ≤ n) : binom n (n - k) = binom n k := by
  have := binom_symm_add (n - k) k
  rwa [show n - k + k = n by omega] at this
theorem binom_le (n : Nat) : ∀ k, binom n k ≤ 2 ^ n := by
  induction n with
  | zero => intro k; cases k <;> simp [binom]
  | succ n ih =>
    intro k
    cases k with
    | zero => simp; exact Nat.one_le_two_pow
    | succ k => rw [binom_succ, Nat.pow_succ]; have := ih k; have := ih (k + 1); omega
/-- the number of binary digits -/
def blen (n : Nat) : Nat := if n = 0 then 0 else Nat.log2 n + 1
theorem blen_zero : blen 0 = 0 := rfl
theorem blen_lt (n : Nat) : n < 2 ^ blen n := by
  unfold blen; split
  · rename_i h; simp [h]
  · exact Nat.lt_log2_self
theorem blen_le {n : Nat} (h : n ≠ 0) : 2 ^ (blen n - 1) ≤ n := by
  unfold blen; rw [if_neg h, Nat.add_sub_cancel]; exact Nat.log2_self_le h
theorem blen_pos {n : Nat} (h : n ≠ 0) : 0 < blen n := by unfold blen; rw [if_neg h]; omega
theorem blen_unique {n b : Nat} (h1 : 2 ^ b ≤ n) (h2 : n < 2 ^ (b + 1)) : blen n = b + 1 := by
  have hn : n ≠ 0 := by have := Nat.two_pow_pos b; omega
  have h3 := blen_le hn
  have h4 := blen_lt n
  have h5 := blen_pos hn
  have a1 : blen n - 1 < b + 1 := (Nat.pow_lt_pow_iff_right (by omega : 1 < 2)).1 (Nat.lt_of_le_of_lt h3 h2)
  have a2 : b < blen n := (Nat.pow_lt_pow_iff_right (by omega : 1 < 2)).1 (Nat.lt_of_le_of_lt h1 h4)
  omega
theorem blen_shift {lo hi s : Nat} (h : lo < 2 ^ s) (hh : hi ≠ 0) : blen (lo + hi * 2 ^ s) = s + blen hi := by
  have h1 := blen_le hh
  have h2 := blen_lt hi
  have h3 := blen_pos hh
  obtain ⟨b, hb⟩ : ∃ b, blen hi = b + 1 := ⟨blen hi - 1, by omega⟩
  rw [hb] at h1 h2
  rw [Nat.add_sub_cancel] at h1
  have h4 : hi * 2 ^ s + 2 ^ s ≤ 2 ^ (b + 1) * 2 ^ s := by rw [← Nat.succ_mul]; exact Nat.mul_le_mul_right _ h2
  have h5 : 2 ^ b * 2 ^ s ≤ hi * 2 ^ s := Nat.mul_le_mul_right _ h1
  rw [← Nat.pow_add] at h4 h5
  rw [blen_unique (b := b + s) (by omega) (by rw [show b + s + 1 = b + 1 + s by omega]; omega), hb]
  omega
theorem blen_le_32 {n : Nat} (h : n < 4294967296) : blen n ≤ 32 := by
  by_cases h0 : n = 0
  · rw [h0, blen_zero]; omega
  · have h1 := blen_le h0
    have h2 : 2 ^ (blen n - 1) < 2 ^ 32 := by omega
    have := (Nat.pow_lt_pow_iff_right (by omega : 1 < 2)).1 h2
    omega
theorem blen_one_iff (n : Nat) : blen n = 1 ↔ n = 1 := by
  constructor
  · intro h
    have h2 := blen_lt n
    rw [h] at h2
    have : n ≠ 0 := by intro h0; rw [h0, blen_zero] at h; omega
    omega
  · intro h; subst h; rfl
end Cw
/- The numbers of words in balls, as sums. -/
namespace Cw
/-- 2^a, kept closed -/
def P2 (a : Nat) : Nat := 2 ^ a
theorem P2_mul (a b : Nat) : P2 a * P2 b = P2 (a + b) := (Nat.pow_add 2 a b).symm
theorem P2_le {a b : Nat} (h : a ≤ b) : P2 a ≤ P2 b := Nat.pow_le_pow_right (by omega) h
theorem P2_pos (a : Nat) : 0 < P2 a := Nat.two_pow_pos a
theorem P2_len {x a L : Nat} (h : x ≤ P2 a) (ha : a < 32 * L) : (enc x).length ≤ L :=
  enc_length_le _ (Nat.lt_of_le_of_lt h (two_pow_lt ha))
theorem P2_lt {x a L : Nat} (h : x ≤ P2 a) (ha : a < 32 * L) : x < 4294967296 ^ L := Nat.lt_of_le_of_lt h (two_pow_lt ha)
/-- powers of numbers up to 256 -/
theorem pow_P2 {m i k : Nat} (hm : m ≤ P2 k) : m ^ i ≤ P2 (k * i) := by
  have h1 : m ^ i ≤ (2 ^ k) ^ i := Nat.pow_le_pow_left hm i
  rwa [← Nat.pow_mul] at h1
theorem le_P2_8 {m : Nat} (hm : m ≤ 256) : m ≤ P2 8 := hm
theorem mul_P2 {x y a b : Nat} (hx : x ≤ P2 a) (hy : y ≤ P2 b) : x * y ≤ P2 (a + b) := by
  have := Nat.mul_le_mul hx hy
  rwa [P2_mul] at this
theorem add_P2 {x y a : Nat} (hx : x ≤ P2 a) (hy : y ≤ P2 a) : x + y ≤ P2 (a + 1) := by
  unfold P2 at *
  rw [Nat.pow_succ]; omega
/-- the sum over j below i of C(n, j) m^j -/
def psum (m n : Nat) : Nat → Nat
  | 0 => 0
  | i + 1 => psum m n i + binom n i * m ^ i
theorem pow_small {m i : Nat} (hm : m ≤ 256) (hi : i ≤ 65) : m ^ i ≤ P2 520 :=
  Nat.le_trans (pow_P2 (le_P2_8 hm)) (P2_le (by omega))
theorem binom_small {n : Nat} (hn : n ≤ 64) (k : Nat) : binom n k ≤ P2 64 :=
  Nat.le_trans (binom_le n k) (P2_le hn)
theorem term_small {m n i : Nat} (hm : m ≤ 256) (hn : n ≤ 64) (hi : i ≤ 65) : binom n i * m ^ i ≤ P2 584 :=
  Nat.le_trans (mul_P2 (binom_small hn i) (pow_small hm hi)) (P2_le (by omega))
theorem psum_small' {m n : Nat} (hm : m ≤ 256) (hn : n ≤ 64) : ∀ i, i ≤ 66 → psum m n i ≤ i * P2 584 := by
  intro i
  induction i with
  | zero => intro _; simp [psum]
  | succ i ih =>
    intro hi
    have h1 := ih (by omega)
    have h2 := term_small hm hn (i := i) (by omega)
    rw [psum, Nat.succ_mul]
    exact Nat.add_le_add h1 h2
theorem psum_small {m n i : Nat} (hm : m ≤ 256) (hn : n ≤ 64) (hi : i ≤ 66) : psum m n i ≤ P2 592 := by
  refine Nat.le_trans (psum_small' hm hn i hi) ?_
  have h1 : i ≤ P2 8 := Nat.le_trans hi (by decide)
  exact Nat.le_trans (mul_P2 h1 (Nat.le_refl (P2 584))) (P2_le (by omega))
theorem psum_len {m n i : Nat} (hm : m ≤ 256) (hn : n ≤ 64) (hi : i ≤ 66) : (enc (psum m n i)).length ≤ 1001 := P2_len (psum_small hm hn hi) (by omega)
theorem psum_pos {m n i : Nat} (hi : 0 < i) : 0 < psum m n i := by
  induction i with
  | zero => omega
  | succ i ih =>
    rw [psum]
    by_cases h : i = 0
    · subst h; simp [psum]
    · have := ih (by omega); omega
end Cw
/- Sums over lists, and words at a distance from a word: the volume of a ball. -/
namespace Cw
/-- the sum of f over a list -/
def sm {α : Type} (l : List α) (f : α → Nat) : Nat := (l.map f).sum
@[simp] theorem sm_nil {α : Type} (f : α → Nat) : sm [] f = 0 := rfl
@[simp] theorem sm_cons {α : Type} (a : α) (l : List α) (f : α → Nat) : sm (a :: l) f = f a + sm l f := by simp [sm]
theorem sm_append {α : Type} (l m : List α) (f : α → Nat) : sm (l ++ m) f = sm l f + sm m f := by simp [sm]
theorem sm_map {α β : Type} (l : List α) (g : α → β) (f : β → Nat) : sm (l.map g) f = sm l (fun x => f (g x)) := by
  simp [sm, List.map_map]; rfl
theorem sm_congr {α : Type} {l : List α} {f g : α → Nat} (h : ∀ x ∈ l, f x = g x) : sm l f = sm l g := by
  induction l with
  | nil => rfl
  | cons a l ih => rw [sm_cons, sm_cons, h a (by simp), ih (fun x hx => h x (by simp [hx]))]
theorem sm_le {α : Type} {l : List α} {f g : α → Nat} (h : ∀ x ∈ l, f x ≤ g x) : sm l f ≤ sm l g := by
  induction l with
  | nil => exact Nat.le_refl _
  | cons a l ih =>
    have h1 := h a (by simp)
    have h2 := ih (fun x hx => h x (by simp [hx]))
    rw [sm_cons, sm_cons]; omega
theorem sm_add {α : Type} (l : List α) (f g : α → Nat) : sm l (fun x => f x + g x) = sm l f + sm l g := by
  induction l with
  | nil => rfl
  | cons a l ih => simp only [sm_cons, ih]; omega
theorem sm_mul {α : Type} (c : Nat) (l : List α) (f : α → Nat) : sm l (fun x => c * f x) = c * sm l f := by
  induction l with
  | nil => rfl
  | cons a l ih => simp only [sm_cons, ih, Nat.mul_add]
theorem sm_const {α : Type} (c : Nat) (l : List α) : sm l (fun _ => c) = l.length * c := by
  induction l with
  | nil => simp
  | cons a l ih => simp only [sm_cons, ih, List.length_cons, Nat.add_mul, Nat.one_mul]; omega
theorem sm_zero {α : Type} {l : List α} {f : α → Nat} (h : ∀ x ∈ l, f x = 0) : sm l f = 0 := by
  rw [sm_congr h, sm_const]; simp
theorem sm_comm {α β : Type} (l : List α) (m : List β) (f : α → β → Nat) : sm l (fun a => sm m (fun b => f a b)) = sm m (fun b => sm l (fun a => f a b)) := by
  induction l with
  | nil => simp only [sm_nil]; rw [sm_zero]; intro _ _; rfl
  | cons a l ih => simp only [sm_cons, ih, sm_add]
theorem sm_flatMap {α β : Type} (l : List α) (g : α → List β) (f : β → Nat) : sm (l.flatMap g) f = sm l (fun a => sm (g a) f) := by
  induction l with
  | nil => rfl
  | cons a l ih => simp only [List.flatMap_cons, sm_append, sm_cons, ih]
theorem sm_length_filter {α : Type} (l : List α) (p : α → Bool) : sm l (fun x => if p x then 1 else 0) = (l.filter p).length := by
  induction l with
  | nil => rfl
  | cons a l ih => rw [sm_cons, ih, List.filter_cons]; split <;> simp <;> omega
/-- the places in which two words differ -/
def dist : List Int → List Int → Nat
  | a :: as, b :: bs => (if a = b then 0 else 1) + dist as bs
  | _, _ => 0
@[simp] theorem dist_nil (b : List Int) : dist [] b = 0 := by cases b <;> rfl
@[simp] theorem dist_nil' (b : List Int) : dist b [] = 0 := by cases b <;> rfl
@[simp] theorem dist_cons (a b : Int) (as bs : List Int) : dist (a :: as) (b :: bs) = (if a = b then 0 else 1) + dist as bs := rfl
theorem dist_comm : ∀ a b : List Int, dist a b = dist b a
  | [], b => by simp
  | a :: as, [] => by simp
  | a :: as, b :: bs => by
    rw [dist_cons, dist_cons, dist_comm as bs]
    by_cases h : a = b
    · rw [if_pos h, if_pos h.symm]
    · rw [if_neg h, if_neg (fun e => h e.symm)]
theorem dist_tri : ∀ (a b c : List Int), a.length = b.length → b.length = c.length → dist a c ≤ dist a b + dist b c
  | [], b, c, _, _ => by simp
  | a :: as, [], c, h, _ => by simp at h
  | a :: as, b :: bs, [], _, h => by simp at h
  | a :: as, b :: bs, c :: cs, h1, h2 => by
    have ih := dist_tri as bs cs (by simpa using h1) (by simpa using h2)
    rw [dist_cons, dist_cons, dist_cons]
    by_cases e1 : a = b
    · by_cases e2 : b = c
      · rw [if_pos e1, if_pos e2, if_pos (e1.trans e2)]; omega
      · rw [if_pos e1, if_neg e2]; split <;> omega
    · rw [if_neg e1]; split <;> split <;> omega
theorem dist_le : ∀ a b : List Int, dist a b ≤ a.length
  | [], b => by simp
  | a :: as, [] => by simp
  | a :: as, b :: bs => by
    have := dist_le as bs
    rw [dist_cons, List.length_cons]; split <;> omega
/-- the first k places -/
theorem dist_take : ∀ (k : Nat) (a b : List Int), a.length = b.length → dist a b ≤ dist (a.take k) (b.take k) + (a.length - k)
  | k, [], b, _ => by simp
  | k, a :: as, [], h => by simp at h
  | 0, a :: as, b :: bs, _ => by simp only [List.take_zero, dist_nil]; have := dist_le (a :: as) (b :: bs); omega
  | k + 1, a :: as, b :: bs, h => by
    have ih := dist_take k as bs (by simpa using h)
    simp only [List.take_succ_cons, dist_cons, List.length_cons]
    omega
/-- the letters 0 to q - 1 -/
def letters (q : Nat) : List Int := (List.range q).map (fun i : Nat => (i : Int))
/-- all words of length n -/
def allw (q : Nat) : Nat → List (List Int)
  | 0 => [[]]
  | n + 1 => (letters q).flatMap (fun a => (allw q n).map (fun w => a :: w))
/-- a word of length n over q letters -/
def IsW (q n : Nat) (w : List Int) : Prop := w.length = n ∧ ∀ x ∈ w, 0 ≤ x ∧ x < (q : Int)
theorem IsW.tail {q n : Nat} {a : Int} {w : List Int} (h : IsW q (n + 1) (a :: w)) : IsW q n w :=
  ⟨by simpa using h.1, fun x hx => h.2 x (by simp [hx])⟩
theorem IsW.head {q n : Nat} {a : Int} {w : List Int} (h : IsW q n (a :: w)) : 0 ≤ a ∧ a < (q : Int) := h.2 a (by simp)
theorem IsW.take {q n k : Nat} {w : List Int} (h : IsW q n w) (hk : k ≤ n) : IsW q k (w.take k) :=
  ⟨by rw [List.length_take, h.1]; omega, fun x hx => h.2 x (List.mem_of_mem_take hx)⟩
theorem letters_length (q : Nat) : (letters q).length = q := by simp [letters]
theorem allw_isW {q : Nat} : ∀ {n : Nat} {w : List Int}, w ∈ allw q n → IsW q n w
  | 0, w, h => by
    simp [allw] at h
    subst h
    exact ⟨rfl, fun x hx => by simp at hx⟩
  | n + 1, w, h => by
    simp only [allw, List.mem_flatMap, List.mem_map] at h
    obtain ⟨a, ha, v, hv, rfl⟩ := h
    have ih := allw_isW hv
    refine ⟨by simp [ih.1], fun x hx => ?_⟩
    rcases List.mem_cons.1 hx with h1 | h1
    · subst h1
      simp only [letters, List.mem_map, List.mem_range] at ha
      obtain ⟨i, hi, rfl⟩ := ha
      omega
    · exact ih.2 x h1
/-- a letter among the letters: A for itself, B for each other one -/
theorem sm_letters {q : Nat} {b : Int} (hb : 0 ≤ b ∧ b < (q : Int)) (A B : Nat) : sm (letters q) (fun a => if a = b then A else B) = A + (q - 1) * B := by
  induction q with
  | zero => omega
  | succ q ih =>
    have e : letters (q + 1) = letters q ++ [(q : Int)] := by simp [letters, List.range_succ]
    rw [e, sm_append, sm_cons, sm_nil]
    by_cases h : b = (q : Int)
    · subst h
      have : sm (letters q) (fun a => if a = (q : Int) then A else B) = sm (letters q) (fun _ => B) := by
        refine sm_congr fun x hx => ?_
        simp only [letters, List.mem_map, List.mem_range] at hx
        obtain ⟨i, hi, rfl⟩ := hx
        rw [if_neg (by omega)]
      rw [this, sm_const, letters_length, if_pos rfl, Nat.add_sub_cancel]; omega
    · rw [ih ⟨hb.1, by omega⟩, if_neg (fun e => h e.symm), Nat.add_sub_cancel]
      have : q * B = (q - 1) * B + B := by
        have hq : q = q - 1 + 1 := by omega
        rw [← Nat.succ_mul]; congr 1
      omega
theorem allw_length (q : Nat) : ∀ n, (allw q n).length = q ^ n
  | 0 => rfl
  | n + 1 => by
    have ih := allw_length q n
    simp only [allw, List.length_flatMap, List.length_map, ih]
    have h : (List.map (fun _ => q ^ n) (letters q)).sum = sm (letters q) (fun _ => q ^ n) := rfl
    rw [h, sm_const, letters_length, Nat.pow_succ, Nat.mul_comm]
theorem psum_succ (m n i : Nat) : psum m n (i + 1) = psum m n i + binom n i * m ^ i := by rw [psum]
/-- balls grow by one place -/
theorem psum_rec (m n : Nat) : ∀ r, psum m (n + 1) (r + 1) = psum m n (r + 1) + m * psum m n r
  | 0 => by simp [psum]
  | r + 1 => by
    have ih := psum_rec m n r
    rw [psum_succ, ih, psum_succ m n (r + 1), psum_succ m n r, binom_succ, Nat.add_mul, Nat.pow_succ, Nat.mul_add]
    have : binom n r * (m ^ r * m) = m * (binom n r * m ^ r) := by rw [← Nat.mul_assoc, Nat.mul_comm]
    omega
/-- the number of words at distance less than r from a word -/
theorem ball {q : Nat} : ∀ {n : Nat} {c : List Int}, IsW q n c → ∀ r, sm (allw q n) (fun x => if dist x c < r then 1 else 0) = psum (q - 1) n r
  | 0, c, h, r => by
    have : c = [] := List.length_eq_zero_iff.1 h.1
    subst this
    cases r with
    | zero => simp [allw, psum]
    | succ r =>
      have : ∀ r, psum (q - 1) 0 (r + 1) = 1 := by
        intro r
        induction r with
        | zero => simp [psum]
        | succ r ih => rw [psum_succ, ih, binom_gt 0 (r + 1) (by omega)]; simp
      rw [this]
      simp [allw]
  | n + 1, c, h, r => by
    cases c with
    | nil => simp [IsW] at h
    | cons b c =>
      have hc := h.tail
      simp only [allw, sm_flatMap, sm_map]
      have e : ∀ a, sm (allw q n) (fun w => if dist (a :: w) (b :: c) < r then 1 else 0) = if a = b then psum (q - 1) n r else psum (q - 1) n (r - 1) := by
        intro a
        by_cases hab : a = b
        · rw [if_pos hab, ← ball hc r]
          refine sm_congr fun w _ => ?_
          have hd : dist (a :: w) (b :: c) = dist w c := by rw [dist_cons, if_pos hab, Nat.zero_add]
          by_cases hw : dist w c < r
          · rw [if_pos hw, if_pos (by omega)]
          · rw [if_neg hw, if_neg (by omega)]
        · rw [if_neg hab, ← ball hc (r - 1)]
          refine sm_congr fun w _ => ?_
          have hd : dist (a :: w) (b :: c) = 1 + dist w c := by rw [dist_cons, if_neg hab]
          by_cases hw : dist w c < r - 1
          · rw [if_pos hw, if_pos (by omega)]
          · rw [if_neg hw, if_neg (by omega)]
      rw [sm_congr (fun a _ => e a), sm_letters h.head]
      cases r with
      | zero => simp [psum]
      | succ r => rw [psum_rec, Nat.add_sub_cancel]
end Cw
/- The bound of Elias in plain numbers: the least quotient over the radii. -/
namespace Cw
end Cw
/- No list of words with distance d has more words than the bounds of Singleton, Hamming, Plotkin and Elias say. -/
namespace Cw
/-- any two of the words differ in at least d places -/
def Apart (d : Nat) (W : List (List Int)) : Prop := W.Pairwise (fun a b => d ≤ dist a b)
def AllW (q n : Nat) (W : List (List Int)) : Prop := ∀ c ∈ W, IsW q n c
theorem AllW.cons {q n : Nat} {c : List Int} {W : List (List Int)} (h : AllW q n (c :: W)) : IsW q n c ∧ AllW q n W :=
  ⟨h c (by simp), fun x hx => h x (by simp [hx])⟩
/-- at most one word within t of x -/
theorem one_ball {q n d t : Nat} {x : List Int} (hx : x.length = n) (ht : 2 * t < d) : ∀ {W : List (List Int)}, AllW q n W → Apart d W → sm W (fun c => if dist x c < t + 1 then 1 else 0) ≤ 1
  | [], _, _ => by simp
  | c :: W, hW, hA => by
    obtain ⟨hc, hW'⟩ := hW.cons
    unfold Apart at hA
    rw [List.pairwise_cons] at hA
    obtain ⟨h1, h2⟩ := hA
    have ih := one_ball hx ht hW' h2
    rw [sm_cons]
    by_cases h : dist x c < t + 1
    · rw [if_pos h, sm_zero]
      · omega
      · intro c' hc'
        have h3 := h1 c' hc'
        have h4 := dist_tri c x c' (by rw [hx, hc.1]) (by rw [hx, (hW' c' hc').1])
        rw [dist_comm c x] at h4
        rw [if_neg (by omega)]
    · rw [if_neg h]; omega
theorem Apart.filter {d : Nat} {W : List (List Int)} (h : Apart d W) (p : List Int → Bool) : Apart d (W.filter p) := List.Pairwise.filter p h
end Cw
/- The estimate of a quotient's digit out of the leading digits (Knuth's algorithm D), in plain integers. -/
namespace Cw
/-- what is known of the numbers: V = V3 P + vl, U = T3 P + ul, V3 = v1 B + v2, T3 = top B + u2 -/
structure KN (B P v1 v2 vl top u2 ul q : Int) : Prop where
  B0 : 0 < B
  P0 : 0 < P
  hv1 : 1 ≤ v1
  hv2 : 0 ≤ v2 ∧ v2 < B
  hvl : 0 ≤ vl ∧ vl < P
  htop : 0 ≤ top
  hu2 : 0 ≤ u2 ∧ u2 < B
  hul : 0 ≤ ul ∧ ul < P
  q0 : 0 ≤ q
  q1 : q < B
  lo : q * ((v1 * B + v2) * P + vl) ≤ (top * B + u2) * P + ul
  hi : (top * B + u2) * P + ul < (q + 1) * ((v1 * B + v2) * P + vl)
variable {B P v1 v2 vl top u2 ul q : Int}
theorem KN.le3 (h : KN B P v1 v2 vl top u2 ul q) : q * (v1 * B + v2) ≤ top * B + u2 := by
  have h1 : 0 ≤ q * vl := Int.mul_nonneg h.q0 h.hvl.1
  have h2 := h.lo
  rw [Int.mul_add, ← Int.mul_assoc] at h2
  have h3 := h.hul.2
  have h4 : (q * (v1 * B + v2)) * P < (top * B + u2 + 1) * P := by rw [Int.add_mul, Int.one_mul]; omega
  have := Int.lt_of_mul_lt_mul_right h4 (Int.le_of_lt h.P0)
  omega
/-- the leading digits are below those of V B -/
theorem KN.top_lt (h : KN B P v1 v2 vl top u2 ul q) : top < (v1 + 1) * B := by
  have hP := h.P0
  have hB := h.B0
  have hq := h.q1
  have h0 : 0 ≤ (v1 * B + v2) * P + vl := by
    have a1 := Int.mul_nonneg (by have := h.hv1; omega : (0 : Int) ≤ v1) (Int.le_of_lt hB)
    have a2 := h.hv2.1
    have := Int.mul_nonneg (by omega : 0 ≤ v1 * B + v2) (Int.le_of_lt hP)
    have := h.hvl.1
    omega
  have h1 : (q + 1) * ((v1 * B + v2) * P + vl) ≤ B * ((v1 * B + v2) * P + vl) := Int.mul_le_mul_of_nonneg_right (by omega) h0
  have h2 := h.hi
  -- V < (v1 + 1) B P, U at least top B P
  have h3 : (v1 * B + v2) * P + vl < ((v1 + 1) * B) * P := by
    have a1 : (v1 * B + v2 + 1) * P ≤ ((v1 + 1) * B) * P := Int.mul_le_mul_of_nonneg_right (by rw [Int.add_mul, Int.one_mul]; have := h.hv2.2; omega) (Int.le_of_lt hP)
    rw [Int.add_mul (v1 * B + v2) 1 P, Int.one_mul] at a1
    have := h.hvl.2
    omega
  have h4 : B * ((v1 * B + v2) * P + vl) < B * (((v1 + 1) * B) * P) := Int.mul_lt_mul_of_pos_left h3 hB
  have h5 : (top * B) * P ≤ (top * B + u2) * P := Int.mul_le_mul_of_nonneg_right (by have := h.hu2.1; omega) (Int.le_of_lt hP)
  have h6 := h.hul.1
  have h7 : top * (B * P) < ((v1 + 1) * B) * (B * P) := by
    rw [← Int.mul_assoc]
    rw [show ((v1 + 1) * B) * (B * P) = B * (((v1 + 1) * B) * P) from by rw [Int.mul_left_comm]]
    omega
  exact Int.lt_of_mul_lt_mul_right h7 (Int.mul_nonneg (Int.le_of_lt hB) (Int.le_of_lt hP))
/-- at the start -/
theorem KN.start (h : KN B P v1 v2 vl top u2 ul q) : q ≤ top / v1 := by
  have h1 := h.le3
  have h2 : 0 ≤ q * v2 := Int.mul_nonneg h.q0 h.hv2.1
  have h3 : (q * v1) * B < (top + 1) * B := by
    rw [Int.mul_add, ← Int.mul_assoc] at h1
    rw [Int.add_mul, Int.one_mul]
    have := h.hu2.2
    omega
  have h4 := Int.lt_of_mul_lt_mul_right h3 (Int.le_of_lt h.B0)
  exact (Int.le_ediv_iff_mul_le (by have := h.hv1; omega)).2 (by omega)
theorem KN.down (h : KN B P v1 v2 vl top u2 ul q) {e r : Int} (he : e * v1 + r = top) (hd : r * B + u2 < e * v2) : q ≤ e - 1 := by
  have h1 := h.le3
  have h2 : top * B = e * v1 * B + r * B := by rw [← he, Int.add_mul]
  have h3 : q * (v1 * B + v2) < e * (v1 * B + v2) := by
    have : e * (v1 * B + v2) = e * v1 * B + e * v2 := by rw [Int.mul_add, Int.mul_assoc]
    rw [this]; omega
  have h5 : 0 ≤ v1 * B + v2 := by
    have := Int.mul_nonneg (by have := h.hv1; omega : (0 : Int) ≤ v1) (Int.le_of_lt h.B0)
    have := h.hv2.1
    omega
  have := Int.lt_of_mul_lt_mul_right h3 h5
  omega
theorem KN.stop (h : KN B P v1 v2 vl top u2 ul q) {e r : Int} (he0 : 0 ≤ e) (heB : e < B) (he : e * v1 + r = top) (hd : e * v2 ≤ r * B + u2) : e ≤ q + 1 := by
  have h2 : top * B = e * v1 * B + r * B := by rw [← he, Int.add_mul]
  have h3 : e * (v1 * B + v2) ≤ top * B + u2 := by
    have : e * (v1 * B + v2) = e * v1 * B + e * v2 := by rw [Int.mul_add, Int.mul_assoc]
    rw [this]; omega
  have h4 : e * (v1 * B + v2) * P ≤ (top * B + u2) * P := Int.mul_le_mul_of_nonneg_right h3 (Int.le_of_lt h.P0)
  have h5 : e * vl ≤ e * P := Int.mul_le_mul_of_nonneg_left (Int.le_of_lt h.hvl.2) he0
  have h6 : (e + 1) * P ≤ B * P := Int.mul_le_mul_of_nonneg_right (by omega) (Int.le_of_lt h.P0)
  have h7 : 1 * (B * P) ≤ v1 * (B * P) := Int.mul_le_mul_of_nonneg_right h.hv1 (Int.mul_nonneg (Int.le_of_lt h.B0) (Int.le_of_lt h.P0))
  have h8 : 0 ≤ v2 * P := Int.mul_nonneg h.hv2.1 (Int.le_of_lt h.P0)
  have h9 := h.hvl.1
  have h10 := h.hul.1
  have hP := h.P0
  have e1 : e * ((v1 * B + v2) * P + vl) = e * (v1 * B + v2) * P + e * vl := by rw [Int.mul_add, Int.mul_assoc]
  have e2 : (v1 * B + v2) * P = v1 * (B * P) + v2 * P := by rw [Int.add_mul, Int.mul_assoc]
  rw [Int.add_mul, Int.one_mul] at h6
  have h11 : e * ((v1 * B + v2) * P + vl) < (q + 2) * ((v1 * B + v2) * P + vl) := by
    have h12 := h.hi
    have e3 : (q + 2) * ((v1 * B + v2) * P + vl) = (q + 1) * ((v1 * B + v2) * P + vl) + ((v1 * B + v2) * P + vl) := by
      rw [show q + 2 = (q + 1) + 1 by omega, Int.add_mul (q + 1) 1, Int.one_mul]
    rw [e3, e1]
    omega
  have h13 : 0 ≤ (v1 * B + v2) * P + vl := by
    rw [e2]
    have : 0 ≤ B * P := Int.mul_nonneg (Int.le_of_lt h.B0) (Int.le_of_lt h.P0)
    omega
  have := Int.lt_of_mul_lt_mul_right h11 h13
  omega
end Cw
/- Subtracting a multiple and adding back, limb by limb. -/
namespace Cw
/-- the L lowest limbs of n -/
def lims : Nat → Nat → List Int
  | 0, _ => []
  | L + 1, n => ((n % 4294967296 : Nat) : Int) :: lims L (n / 4294967296)
theorem lims_length (L n : Nat) : (lims L n).length = L := by
  induction L generalizing n with
  | zero => rfl
  | succ L ih => simp [lims, ih]
theorem lims_lim (L n : Nat) : Lim (lims L n) := by
  induction L generalizing n with
  | zero => exact Lim.nil
  | succ L ih => exact Lim.cons (by omega) (by omega) (ih _)
theorem eq_lims {xs : List Int} : ∀ {n : Nat}, Is xs n → xs = lims xs.length n := by
  induction xs with
  | nil => intro n _; rfl
  | cons c xs ih =>
    intro n h
    have hx := h.1.tail.is
    have hc := h.1.head
    have hn := h.2
    rw [ev_cons, hx.2] at hn
    have ih' := ih hx
    generalize (ev xs 4294967296).toNat = m at *
    rw [List.length_cons, lims, show n / 4294967296 = m by omega, ← ih', show n % 4294967296 = c.toNat by omega]
    have : ((c.toNat : Nat) : Int) = c := by omega
    rw [this]
theorem lims_is {L n : Nat} (h : n < 4294967296 ^ L) : Is (lims L n) n := by
  induction L generalizing n with
  | zero => have : n = 0 := by simpa using h
            rw [this]; exact Is.nil
  | succ L ih =>
    have h1 : n / 4294967296 < 4294967296 ^ L := by
      rw [Nat.pow_succ] at h; exact Nat.div_lt_of_lt_mul (by rw [Nat.mul_comm]; exact h)
    have := Is.cons (c := ((n % 4294967296 : Nat) : Int)) (by omega) (by omega) (ih h1)
    have e : ((n % 4294967296 : Nat) : Int).toNat + 4294967296 * (n / 4294967296) = n := by omega
    rwa [e] at this
/-- e times i limbs of v are subtracted; c is carried, b is borrowed -/
def SubInv (u v w : List Int) (e c b : Int) (i : Nat) : Prop :=
  ev w 4294967296 = ev u 4294967296 - e * ev (v.take i) 4294967296 + (c + b) * 4294967296 ^ i ∧ ∀ j, i ≤ j → w.getD j 0 = u.getD j 0
theorem SubInv.start (u v : List Int) (e : Int) : SubInv u v u e 0 0 0 := ⟨by simp, fun _ _ => rfl⟩
theorem SubInv.step {u v w : List Int} {e c b d b' : Int} {i : Nat} (h : SubInv u v w e c b i) (hi : i < w.length)
    (hd : d = u.getD i 0 - (e * v.getD i 0 + c) % 4294967296 - b + b' * 4294967296) :
    SubInv u v (w.set i d) e ((e * v.getD i 0 + c) / 4294967296) b' (i + 1) := by
  obtain ⟨h1, h2⟩ := h
  refine ⟨?_, fun j hj => by rw [lset_ne _ _ _ _ (by omega)]; exact h2 j (by omega)⟩
  rw [ev_set _ _ _ _ hi, h2 i (Nat.le_refl _), h1, ev_take_succ', Int.pow_succ, hd]
  have e1 := Int.emod_add_mul_ediv (e * v.getD i 0 + c) 4294967296
  generalize (e * v.getD i 0 + c) % 4294967296 = r at *
  generalize (e * v.getD i 0 + c) / 4294967296 = q at *
  generalize (4294967296 : Int) ^ i = P at *
  have e2 : r = e * v.getD i 0 + c - 4294967296 * q := by omega
  rw [e2]
  generalize ev (v.take i) 4294967296 = F at *
  generalize v.getD i 0 = x at *
  generalize u.getD i 0 = y at *
  clear hd h1 h2 e1 e2
  grind
theorem SubInv.last {u v w : List Int} {e c b d t : Int} {K : Nat} (h : SubInv u v w e c b K) (hv : v.length = K) (hi : K < w.length)
    (hd : d = u.getD K 0 - c - b + t * 4294967296) : ev (w.set K d) 4294967296 = ev u 4294967296 - e * ev v 4294967296 + t * 4294967296 ^ (K + 1) := by
  obtain ⟨h1, h2⟩ := h
  rw [ev_set _ _ _ _ hi, h2 K (Nat.le_refl _), h1, List.take_of_length_le (by omega), hd, Int.pow_succ]
  generalize (4294967296 : Int) ^ K = P at *
  generalize u.getD K 0 = y at *
  clear hd h1 h2
  grind
/-- i limbs of v are added to w0 -/
def AddInv (w0 v w : List Int) (c : Int) (i : Nat) : Prop :=
  ev w 4294967296 + c * 4294967296 ^ i = ev w0 4294967296 + ev (v.take i) 4294967296 ∧ ∀ j, i ≤ j → w.getD j 0 = w0.getD j 0
theorem AddInv.start (w0 v : List Int) : AddInv w0 v w0 0 0 := ⟨by simp, fun _ _ => rfl⟩
theorem AddInv.step {w0 v w : List Int} {c : Int} {i : Nat} (h : AddInv w0 v w c i) (hi : i < w.length) :
    AddInv w0 v (w.set i ((w0.getD i 0 + v.getD i 0 + c) % 4294967296)) ((w0.getD i 0 + v.getD i 0 + c) / 4294967296) (i + 1) := by
  obtain ⟨h1, h2⟩ := h
  refine ⟨?_, fun j hj => by rw [lset_ne _ _ _ _ (by omega)]; exact h2 j (by omega)⟩
  rw [ev_set _ _ _ _ hi, h2 i (Nat.le_refl _), ev_take_succ', Int.pow_succ]
  have e1 := Int.emod_add_mul_ediv (w0.getD i 0 + v.getD i 0 + c) 4294967296
  generalize (w0.getD i 0 + v.getD i 0 + c) % 4294967296 = r at *
  generalize (w0.getD i 0 + v.getD i 0 + c) / 4294967296 = q at *
  generalize (4294967296 : Int) ^ i = P at *
  have e2 : r = w0.getD i 0 + v.getD i 0 + c - 4294967296 * q := by omega
  rw [e2]
  generalize ev w 4294967296 = E at *
  generalize ev (v.take i) 4294967296 = F at *
  generalize ev w0 4294967296 = G at *
  clear h2 e1 e2
  grind
theorem AddInv.last {w0 v w : List Int} {c d t : Int} {K : Nat} (h : AddInv w0 v w c K) (hv : v.length = K) (hi : K < w.length)
    (hd : d = w0.getD K 0 + c - t * 4294967296) : ev (w.set K d) 4294967296 = ev w0 4294967296 + ev v 4294967296 - t * 4294967296 ^ (K + 1) := by
  obtain ⟨h1, h2⟩ := h
  rw [List.take_of_length_le (by omega)] at h1
  rw [ev_set _ _ _ _ hi, h2 K (Nat.le_refl _), hd, Int.pow_succ]
  generalize (4294967296 : Int) ^ K = P at *
  generalize ev w 4294967296 = E at *
  generalize w0.getD K 0 = y at *
  clear hd h2
  grind
/-- no borrow is left: e is the quotient -/
theorem fin0 {U V q R e D : Int} (hU : U = q * V + R) (hR : R < V) (hD : D = U - e * V) (h0 : 0 ≤ D) (he : e = q ∨ e = q + 1) : e = q ∧ D = R := by
  rcases he with h | h
  · subst h; exact ⟨rfl, by omega⟩
  · exfalso; subst h; rw [Int.add_mul, Int.one_mul] at hD; omega
/-- a borrow is left: e is one too big -/
theorem fin1 {U V q R e D P : Int} (hU : U = q * V + R) (hR : 0 ≤ R) (hD : D = U - e * V + P) (h1 : D < P) (he : e = q ∨ e = q + 1) : e = q + 1 ∧ D + V = R + P := by
  rcases he with h | h
  · exfalso; subst h; omega
  · subst h; rw [Int.add_mul, Int.one_mul] at hD; exact ⟨rfl, by omega⟩
theorem fin2 {W R P S t : Int} (hW : W = S - t * P) (hS : S = R + P) (h0 : 0 ≤ W) (h1 : W < P) (hR0 : 0 ≤ R) (hR : R < P) : W = R := by
  have e3 : W = R + (1 - t) * P := by rw [Int.sub_mul, Int.one_mul]; omega
  have t1 : 1 - t = 0 := by
    rcases Int.lt_trichotomy (1 - t) 0 with h | h | h
    · have : (1 - t) * P ≤ (-1) * P := Int.mul_le_mul_of_nonneg_right (by omega) (by omega)
      omega
    · exact h
    · have : 1 * P ≤ (1 - t) * P := Int.mul_le_mul_of_nonneg_right (by omega) (by omega)
      omega
  rw [e3, t1]; omega
theorem lims_getD (L : Nat) : ∀ (n i : Nat), i < L → (lims L n).getD i 0 = ((n / 4294967296 ^ i % 4294967296 : Nat) : Int) := by
  induction L with
  | zero => intro n i h; omega
  | succ L ih =>
    intro n i h
    cases i with
    | zero => simp [lims]
    | succ i =>
      rw [lims, List.getD_cons_succ, ih _ _ (by omega), Nat.div_div_eq_div_mul, Nat.pow_succ, Nat.mul_comm 4294967296]
end Cw
/- The state of Knuth's algorithm D out of the numbers' limbs. -/
namespace Cw
theorem ev_top2 (v : List Int) (L : Nat) (h : v.length = L + 2) : ev v 4294967296 = (v.getD (L + 1) 0 * 4294967296 + v.getD L 0) * 4294967296 ^ L + ev (v.take L) 4294967296 := by
  have h1 := ev_take_succ' 4294967296 v (L + 1)
  have h2 := ev_take_succ' 4294967296 v L
  rw [List.take_of_length_le (by omega)] at h1
  rw [h1, h2, Int.pow_succ]
  generalize (4294967296 : Int) ^ L = P
  generalize v.getD (L + 1) 0 = a
  generalize v.getD L 0 = b
  clear h1 h2
  grind
theorem ev_top3 (v : List Int) (L : Nat) (h : v.length = L + 3) : ev v 4294967296 = ((v.getD (L + 2) 0 * 4294967296 + v.getD (L + 1) 0) * 4294967296 + v.getD L 0) * 4294967296 ^ L + ev (v.take L) 4294967296 := by
  have h0 := ev_take_succ' 4294967296 v (L + 2)
  have h1 := ev_take_succ' 4294967296 v (L + 1)
  have h2 := ev_take_succ' 4294967296 v L
  rw [List.take_of_length_le (by omega)] at h0
  have p1 : (4294967296 : Int) ^ (L + 1) = 4294967296 ^ L * 4294967296 := Int.pow_succ ..
  have p2 : (4294967296 : Int) ^ (L + 2) = 4294967296 ^ L * 4294967296 * 4294967296 := by rw [← p1]; exact Int.pow_succ ..
  rw [h0, h1, h2, p2, p1]
  clear p1 p2
  generalize (4294967296 : Int) ^ L = P
  generalize v.getD (L + 2) 0 = c
  generalize v.getD (L + 1) 0 = a
  generalize v.getD L 0 = b
  clear h0 h1 h2
  grind
theorem take_low {v : List Int} (hv : Lim v) (L : Nat) (h : L ≤ v.length) : 0 ≤ ev (v.take L) 4294967296 ∧ ev (v.take L) 4294967296 < 4294967296 ^ L := by
  have := (hv.take L).lt
  rw [List.length_take, Nat.min_eq_left h] at this
  exact ⟨(hv.take L).nonneg, this⟩
theorem kn_of {u v : List Int} {L U V : Nat} (hu : Is u U) (hv : Is v V) (hul : u.length = L + 3) (hvl : v.length = L + 2) (ht : 1 ≤ v.getD (L + 1) 0) (hV : 0 < V) (hlt : U < V * 4294967296) :
    KN 4294967296 (4294967296 ^ L) (v.getD (L + 1) 0) (v.getD L 0) (ev (v.take L) 4294967296) (u.getD (L + 2) 0 * 4294967296 + u.getD (L + 1) 0) (u.getD L 0) (ev (u.take L) 4294967296) ((U / V : Nat) : Int) := by
  have e1 := ev_top2 v L hvl
  have e2 := ev_top3 u L hul
  rw [hv.2] at e1
  rw [hu.2] at e2
  have hdm : (U : Int) = ((U / V : Nat) : Int) * (V : Int) + ((U % V : Nat) : Int) := by
    rw [← Int.natCast_mul, ← Int.natCast_add, Int.ofNat_inj, Nat.mul_comm]; exact (Nat.div_add_mod U V).symm
  have hR0 : (0 : Int) ≤ ((U % V : Nat) : Int) := Int.natCast_nonneg _
  have hRV : ((U % V : Nat) : Int) < (V : Int) := Int.ofNat_lt.2 (Nat.mod_lt _ hV)
  have hq : U / V < 4294967296 := Nat.div_lt_of_lt_mul hlt
  have t1 := hu.1.getD (L + 2)
  have t2 := hu.1.getD (L + 1)
  refine ⟨by omega, Int.pow_pos (by omega), ht, hv.1.getD L, take_low hv.1 L (by omega), by omega, hu.1.getD L, take_low hu.1 L (by omega), Int.natCast_nonneg _, ?_, ?_, ?_⟩
  · exact Int.ofNat_lt.2 hq
  · rw [← e1, ← e2, hdm]; omega
  · rw [← e1, ← e2, Int.add_mul, Int.one_mul, hdm]; omega
end Cw
/- A number times a power of two, limb by limb. -/
namespace Cw
/-- i limbs of a times M; c is carried -/
def ShInv (a out : List Int) (M c : Int) (i : Nat) : Prop := ev out 4294967296 + c * 4294967296 ^ i = M * ev (a.take i) 4294967296
theorem ShInv.start (a : List Int) (M : Int) (n : Nat) : ShInv a (List.replicate n 0) M 0 0 := by
  unfold ShInv; rw [ev_replicate_zero]; simp
theorem ShInv.step {a out : List Int} {M c : Int} {i : Nat} (h : ShInv a out M c i) (hi : i < out.length) (hz : out.getD i 0 = 0) :
    ShInv a (out.set i ((a.getD i 0 * M + c) % 4294967296)) M ((a.getD i 0 * M + c) / 4294967296) (i + 1) := by
  unfold ShInv at *
  rw [ev_set _ _ _ _ hi, hz, ev_take_succ', Int.pow_succ]
  have e1 := Int.emod_add_mul_ediv (a.getD i 0 * M + c) 4294967296
  generalize (4294967296 : Int) ^ i = P at *
  generalize ev out 4294967296 = E at *
  generalize (a.getD i 0 * M + c) % 4294967296 = r at *
  generalize (a.getD i 0 * M + c) / 4294967296 = q at *
  have e2 : r = a.getD i 0 * M + c - 4294967296 * q := by omega
  rw [e2]
  grind
theorem ShInv.last {a out : List Int} {M c : Int} {i : Nat} (h : ShInv a out M c i) (ha : a.length ≤ i) (hi : i < out.length) (hz : out.getD i 0 = 0) :
    ev (out.set i c) 4294967296 = M * ev a 4294967296 := by
  unfold ShInv at h
  rw [List.take_of_length_le ha] at h
  rw [ev_set _ _ _ _ hi, hz, ← h, Int.sub_zero]
/-- the carry stays below M -/
theorem sh_carry {x M c : Int} (hx : 0 ≤ x ∧ x < 4294967296) (hM : 1 ≤ M ∧ M ≤ 2147483648) (hc : 0 ≤ c ∧ c < M) :
    0 ≤ x * M ∧ x * M + c < 4294967296 * M ∧ 0 ≤ (x * M + c) / 4294967296 ∧ (x * M + c) / 4294967296 < M := by
  have h0 : 0 ≤ x * M := Int.mul_nonneg hx.1 (by omega)
  have h1 : (x + 1) * M ≤ 4294967296 * M := Int.mul_le_mul_of_nonneg_right (by omega) (by omega)
  rw [Int.add_mul, Int.one_mul] at h1
  refine ⟨h0, by omega, Int.ediv_nonneg (by omega) (by omega), Int.ediv_lt_of_lt_mul (by omega) (by omega)⟩
end Cw
/- Long division: the rest in x8, the quotient's digits in x4, from the top down. -/
namespace Cw
theorem split3 (x : List Int) (j K : Nat) (h : j + K + 1 ≤ x.length) :
    ev x 4294967296 = ev (x.take j) 4294967296 + 4294967296 ^ j * (ev ((x.take (j + K + 1)).drop j) 4294967296 + 4294967296 ^ (K + 1) * ev (x.drop (j + K + 1)) 4294967296) := by
  have e1 : x = x.take (j + K + 1) ++ x.drop (j + K + 1) := (List.take_append_drop _ _).symm
  have e2 : x.take (j + K + 1) = x.take j ++ (x.take (j + K + 1)).drop j := by
    have h1 := List.take_append_drop j (x.take (j + K + 1))
    rw [List.take_take, Nat.min_eq_left (by omega)] at h1
    exact h1.symm
  have l1 : (x.take j).length = j := by rw [List.length_take]; omega
  have l2 : ((x.take (j + K + 1)).drop j).length = K + 1 := by rw [List.length_drop, List.length_take]; omega
  rw [show ev x 4294967296 = ev (x.take j ++ ((x.take (j + K + 1)).drop j ++ x.drop (j + K + 1))) 4294967296 by rw [← List.append_assoc, ← e2, ← e1], ev_append, ev_append, l1, l2]
theorem win_length (x : List Int) (j K : Nat) (h : j + K + 1 ≤ x.length) : ((x.take (j + K + 1)).drop j).length = K + 1 := by
  rw [List.length_drop, List.length_take]; omega
theorem put_length (x r : List Int) (j K : Nat) (h : j + K + 1 ≤ x.length) (hr : r.length = K + 1) : (x.take j ++ r ++ x.drop (j + K + 1)).length = x.length := by
  simp only [List.length_append, List.length_take, List.length_drop, hr]; omega
/-- x4 times V and x8 are U; the rest is below V times B^t -/
def LongInv (x4 x8 : List Int) (U V t : Nat) : Prop :=
  Lim x4 ∧ Lim x8 ∧ ev x4 4294967296 * V + ev x8 4294967296 = (U : Int) ∧ ev x8 4294967296 < (V : Int) * 4294967296 ^ t
/-- the window's number -/
theorem LongInv.win {x4 x8 : List Int} {U V j K : Nat} (h : LongInv x4 x8 U V (j + 1)) (hV : V < 4294967296 ^ K) (hl : j + K + 1 ≤ x8.length) :
    ∃ W : Nat, Is ((x8.take (j + K + 1)).drop j) W ∧ W < V * 4294967296 ∧
      ev x8 4294967296 = ev (x8.take j) 4294967296 + 4294967296 ^ j * (W : Int) ∧ ev (x8.drop (j + K + 1)) 4294967296 = 0 ∧ 0 ≤ ev (x8.take j) 4294967296 ∧ ev (x8.take j) 4294967296 < 4294967296 ^ j := by
  obtain ⟨h1, h2, h3, h4⟩ := h
  have hw : Lim ((x8.take (j + K + 1)).drop j) := (h2.take _).drop _
  have e := split3 x8 j K hl
  have hlow := (h2.take j).nonneg
  have hlow2 := (h2.take j).lt
  rw [List.length_take, Nat.min_eq_left (by omega)] at hlow2
  have hhi := (h2.drop (j + K + 1)).nonneg
  have hwn := hw.nonneg
  have hVI : (V : Int) + 1 ≤ 4294967296 ^ K := by
    have := Int.ofNat_le.2 (show V + 1 ≤ 4294967296 ^ K from hV)
    rw [Int.natCast_pow] at this
    exact this
  have hP : (0 : Int) < 4294967296 ^ j := Int.pow_pos (by omega)
  have hK1 : (4294967296 : Int) ^ (K + 1) = 4294967296 ^ K * 4294967296 := Int.pow_succ ..
  have hj1 : (4294967296 : Int) ^ (j + 1) = 4294967296 ^ j * 4294967296 := Int.pow_succ ..
  rw [hj1] at h4
  rw [hK1] at e
  have hz : ev (x8.drop (j + K + 1)) 4294967296 = 0 := by
    rcases (by omega : 0 < ev (x8.drop (j + K + 1)) 4294967296 ∨ ev (x8.drop (j + K + 1)) 4294967296 ≤ 0) with hp | hp
    · exfalso
      have a1 : (4294967296 : Int) ^ K * 4294967296 * 1 ≤ 4294967296 ^ K * 4294967296 * ev (x8.drop (j + K + 1)) 4294967296 := Int.mul_le_mul_of_nonneg_left (by omega) (Int.mul_nonneg (by omega) (by omega))
      have a2 : (4294967296 : Int) ^ j * (4294967296 ^ K * 4294967296) ≤ 4294967296 ^ j * (ev ((x8.take (j + K + 1)).drop j) 4294967296 + 4294967296 ^ K * 4294967296 * ev (x8.drop (j + K + 1)) 4294967296) := Int.mul_le_mul_of_nonneg_left (by omega) (by omega)
      have a3 : (V : Int) * (4294967296 ^ j * 4294967296) ≤ 4294967296 ^ K * (4294967296 ^ j * 4294967296) := Int.mul_le_mul_of_nonneg_right (by omega) (Int.mul_nonneg (by omega) (by omega))
      have a4 : (4294967296 : Int) ^ j * (4294967296 ^ K * 4294967296) = 4294967296 ^ K * (4294967296 ^ j * 4294967296) := by
        generalize (4294967296 : Int) ^ j = A
        generalize (4294967296 : Int) ^ K = C
        grind
      omega
    · omega
  have hi := hw.is
  refine ⟨_, hi, ?_, ?_, hz, hlow, hlow2⟩
  · rw [hz, Int.mul_zero, Int.add_zero, hi.2] at e
    generalize (ev ((x8.take (j + K + 1)).drop j) 4294967296).toNat = W at *
    apply Int.ofNat_lt.1
    rw [Int.natCast_mul]
    rcases (by omega : (W : Int) < (V : Int) * 4294967296 ∨ (V : Int) * 4294967296 ≤ (W : Int)) with hp | hp
    · exact hp
    · exfalso
      have a1 : (4294967296 : Int) ^ j * ((V : Int) * 4294967296) ≤ 4294967296 ^ j * (W : Int) := Int.mul_le_mul_of_nonneg_left hp (by omega)
      have a2 : (4294967296 : Int) ^ j * ((V : Int) * 4294967296) = (V : Int) * (4294967296 ^ j * 4294967296) := by
        generalize (4294967296 : Int) ^ j = A
        grind
      omega
  · rw [hz, Int.mul_zero, Int.add_zero, hi.2] at e
    exact e
/-- a digit of the quotient -/
theorem LongInv.step {x4 x8 : List Int} {U V j K W : Nat} (h : LongInv x4 x8 U V (j + 1)) (hV0 : 0 < V) (hVK : V < 4294967296 ^ K) (hl : j + K + 1 ≤ x8.length)
    (hj : j < x4.length) (hz : x4.getD j 0 = 0) (hlt : W < V * 4294967296)
    (he : ev x8 4294967296 = ev (x8.take j) 4294967296 + 4294967296 ^ j * (W : Int)) (hhi : ev (x8.drop (j + K + 1)) 4294967296 = 0)
    (h0 : 0 ≤ ev (x8.take j) 4294967296) (h1 : ev (x8.take j) 4294967296 < 4294967296 ^ j) :
    LongInv (x4.set j ((W / V : Nat) : Int)) (x8.take j ++ lims (K + 1) (W % V) ++ x8.drop (j + K + 1)) U V j := by
  obtain ⟨g1, g2, g3, g4⟩ := h
  have hq : W / V < 4294967296 := Nat.div_lt_of_lt_mul hlt
  have hr : W % V < V := Nat.mod_lt _ hV0
  have hdm : V * (W / V) + W % V = W := Nat.div_add_mod W V
  have hrl : W % V < 4294967296 ^ (K + 1) := Nat.lt_trans hr (Nat.lt_of_lt_of_le hVK (Nat.pow_le_pow_right (by omega) (by omega)))
  have l1 : (x8.take j).length = j := by rw [List.length_take]; omega
  have hev : ev (x8.take j ++ lims (K + 1) (W % V) ++ x8.drop (j + K + 1)) 4294967296 = ev (x8.take j) 4294967296 + 4294967296 ^ j * ((W % V : Nat) : Int) := by
    rw [List.append_assoc, ev_append, ev_append, l1, hhi, (lims_is hrl).2]
    simp
  refine ⟨g1.set _ (Int.natCast_nonneg _) (Int.ofNat_lt.2 hq), ((g2.take _).append (lims_lim _ _)).append (g2.drop _), ?_, ?_⟩
  · rw [hev, ev_set _ _ _ _ hj, hz, ← g3, he]
    have hdm' := congrArg (fun x : Nat => (x : Int)) hdm
    simp only [Int.natCast_add, Int.natCast_mul] at hdm'
    rw [← hdm']
    generalize (4294967296 : Int) ^ j = A
    generalize ev (x8.take j) 4294967296 = F
    generalize ev x4 4294967296 = E
    generalize ((W / V : Nat) : Int) = q
    generalize ((W % V : Nat) : Int) = r
    clear hdm' hev l1 hrl hdm hr hq
    grind
  · rw [hev]
    have a1 : (4294967296 : Int) ^ j * (((W % V : Nat) : Int) + 1) ≤ 4294967296 ^ j * (V : Int) := Int.mul_le_mul_of_nonneg_left (by omega) (by omega)
    rw [Int.mul_add, Int.mul_one] at a1
    rw [Int.mul_comm (V : Int)]
    omega
theorem LongInv.last {x4 x8 : List Int} {U V : Nat} (h : LongInv x4 x8 U V 0) : Is x4 (U / V) ∧ Is x8 (U % V) := by
  obtain ⟨g1, g2, g3, g4⟩ := h
  have i4 := g1.is
  have i8 := g2.is
  rw [i4.2, i8.2] at g3
  rw [i8.2] at g4
  generalize (ev x4 4294967296).toNat = q at *
  generalize (ev x8 4294967296).toNat = r at *
  have h1 : q * V + r = U := by
    apply Int.ofNat_inj.1
    rw [Int.natCast_add, Int.natCast_mul]; exact g3
  have h2 : r < V := by simp at g4; exact g4
  have e1 : U / V = q := by rw [← h1, Nat.mul_comm, Nat.mul_add_div (by omega), Nat.div_eq_of_lt h2]; rfl
  have e2 : U % V = r := by rw [← h1, Nat.mul_comm, Nat.mul_add_mod, Nat.mod_eq_of_lt h2]
  rw [e1, e2]
  exact ⟨i4, i8⟩
/-- the divisor n with top limb top, shifted up so that its highest bit is set -/
theorem norm_top {top low s b L n : Nat} (hb : blen top = b) (hs : s + b = 32) (h0 : 0 < top) (hlow : low < 2 ^ (32 * L)) (hn : n = low + top * 2 ^ (32 * L)) :
    2 ^ (32 * L) * 2 ^ 31 ≤ n * 2 ^ s ∧ n * 2 ^ s < 2 ^ (32 * L) * 4294967296 := by
  have h1 := blen_lt top
  have h2 := blen_le (n := top) (by omega)
  have h3 := blen_pos (n := top) (by omega)
  rw [hb] at h1 h2 h3
  have hp : 0 < 2 ^ s := Nat.two_pow_pos s
  have e1 : 2 ^ b * 2 ^ s = 4294967296 := by rw [← Nat.pow_add, show b + s = 32 by omega]
  have e2 : 2 ^ (b - 1) * 2 ^ s = 2 ^ 31 := by rw [← Nat.pow_add, show b - 1 + s = 31 by omega]
  generalize 2 ^ (32 * L) = A at *
  have a1 : 2 ^ (b - 1) * A ≤ top * A := Nat.mul_le_mul_right _ h2
  have a2 : (top + 1) * A ≤ 2 ^ b * A := Nat.mul_le_mul_right _ h1
  rw [Nat.add_mul, Nat.one_mul] at a2
  constructor
  · have a3 : 2 ^ (b - 1) * A * 2 ^ s ≤ n * 2 ^ s := Nat.mul_le_mul_right _ (by omega)
    have e3 : 2 ^ (b - 1) * A * 2 ^ s = A * 2 ^ 31 := by rw [Nat.mul_right_comm, e2, Nat.mul_comm]
    rw [e3] at a3
    exact a3
  · have a3 : n * 2 ^ s < 2 ^ b * A * 2 ^ s := Nat.mul_lt_mul_of_pos_right (by omega) hp
    have e3 : 2 ^ b * A * 2 ^ s = A * 4294967296 := by rw [Nat.mul_right_comm, e1, Nat.mul_comm]
    rw [e3] at a3
    exact a3
end Cw
/- A number divided by a power of two, limb by limb. -/
namespace Cw
theorem back_limb (m s : Nat) (hs : s ≤ 31) : (m % 4294967296 + m / 4294967296 % 4294967296 * 4294967296) / 2 ^ s % 4294967296 = m / 2 ^ s % 4294967296 := by
  have e : m % 4294967296 + m / 4294967296 % 4294967296 * 4294967296 = m % (4294967296 * 4294967296) := by
    rw [Nat.mod_mul, Nat.mul_comm 4294967296]
  obtain ⟨t, ht⟩ : ∃ t, t = 32 - s := ⟨_, rfl⟩
  have e2 : 4294967296 * 4294967296 = 2 ^ s * (4294967296 * 2 ^ t) := by
    rw [Nat.mul_left_comm, ← Nat.pow_add, show s + t = 32 by omega]
  rw [e, e2, Nat.mod_mul_right_div_self, Nat.mod_mul_right_mod]
end Cw
/- Subtracting limb by limb, shifting by whole limbs and bits, and dividing by subtracting shifted numbers. -/
namespace Cw
/-- i limbs of b are subtracted from a; c is borrowed -/
def RSubInv (a b out : List Int) (c : Int) (i : Nat) : Prop := ev out 4294967296 = ev (a.take i) 4294967296 - ev (b.take i) 4294967296 + c * 4294967296 ^ i
theorem RSubInv.step {a b out : List Int} {c : Int} {i : Nat} (h : RSubInv a b out c i) (hl : out.length = i) :
    RSubInv a b (out ++ [(a.getD i 0 + 4294967296 - b.getD i 0 - c) % 4294967296]) (1 - (a.getD i 0 + 4294967296 - b.getD i 0 - c) / 4294967296) (i + 1) := by
  unfold RSubInv at *
  rw [ev_append, hl, h, ev_take_succ', ev_take_succ', Int.pow_succ]
  have e1 := Int.emod_add_mul_ediv (a.getD i 0 + 4294967296 - b.getD i 0 - c) 4294967296
  generalize (a.getD i 0 + 4294967296 - b.getD i 0 - c) % 4294967296 = r at *
  generalize (a.getD i 0 + 4294967296 - b.getD i 0 - c) / 4294967296 = q at *
  have e2 : r = a.getD i 0 + 4294967296 - b.getD i 0 - c - 4294967296 * q := by omega
  simp only [ev_cons, ev_nil, Int.mul_zero, Int.add_zero]
  rw [e2]
  generalize (4294967296 : Int) ^ i = P at *
  generalize ev (a.take i) 4294967296 = E at *
  generalize ev (b.take i) 4294967296 = F at *
  generalize a.getD i 0 = x at *
  generalize b.getD i 0 = y at *
  clear h e1 e2
  grind
theorem RSubInv.start (a b : List Int) : RSubInv a b [] 0 0 := by unfold RSubInv; simp
theorem RSubInv.last {a b out : List Int} {c : Int} {m n : Nat} (h : RSubInv a b out c a.length) (ha : Is a m) (hb : Is b n) (hlb : b.length ≤ a.length) (ho : Lim out) (hol : out.length = a.length) (hc : c = 0 ∨ c = 1) (hmn : n ≤ m) : Is out (m - n) := by
  unfold RSubInv at h
  rw [List.take_length, List.take_of_length_le hlb, ha.2, hb.2] at h
  have h1 := ho.lt
  rw [hol] at h1
  refine ⟨ho, ?_⟩
  rcases hc with hc | hc
  · rw [hc] at h; omega
  · exfalso
    rw [hc, Int.one_mul] at h
    omega
/-- i limbs of b are subtracted from w in place; c is borrowed -/
def PSubInv (a b out : List Int) (c : Int) (i : Nat) : Prop :=
  ev out 4294967296 = ev a 4294967296 - ev (b.take i) 4294967296 + c * 4294967296 ^ i ∧ ∀ j, i ≤ j → out.getD j 0 = a.getD j 0
theorem PSubInv.start (a b : List Int) : PSubInv a b a 0 0 := ⟨by simp, fun _ _ => rfl⟩
theorem PSubInv.step {a b out : List Int} {c d c' : Int} {i : Nat} (h : PSubInv a b out c i) (hi : i < out.length)
    (hd : d = a.getD i 0 - c - b.getD i 0 + c' * 4294967296) : PSubInv a b (out.set i d) c' (i + 1) := by
  obtain ⟨h1, h2⟩ := h
  refine ⟨?_, fun j hj => by rw [lset_ne _ _ _ _ (by omega)]; exact h2 j (by omega)⟩
  rw [ev_set _ _ _ _ hi, h2 i (Nat.le_refl _), h1, ev_take_succ', Int.pow_succ, hd]
  generalize (4294967296 : Int) ^ i = P at *
  generalize ev (b.take i) 4294967296 = F at *
  generalize ev a 4294967296 = E at *
  generalize a.getD i 0 = x at *
  generalize b.getD i 0 = y at *
  clear h1 h2 hd
  grind
theorem PSubInv.last {a b out : List Int} {c : Int} {m n : Nat} (h : PSubInv a b out c a.length) (ha : Is a m) (hb : Is b n) (hlb : b.length ≤ a.length) (ho : Lim out) (hol : out.length = a.length) (hc : c = 0 ∨ c = 1) (hmn : n ≤ m) : Is out (m - n) := by
  have h := h.1
  rw [List.take_of_length_le hlb, ha.2, hb.2] at h
  have h1 := ho.lt
  rw [hol] at h1
  refine ⟨ho, ?_⟩
  rcases hc with hc | hc
  · rw [hc] at h; omega
  · exfalso
    rw [hc, Int.one_mul] at h
    omega
/-- W zero limbs, then i limbs of a times M; c is carried -/
def RShInv (a out : List Int) (M : Int) (W : Nat) (c : Int) (i : Nat) : Prop := ev out 4294967296 + c * 4294967296 ^ (W + i) = M * 4294967296 ^ W * ev (a.take i) 4294967296
theorem RShInv.start (a : List Int) (M : Int) (W : Nat) : RShInv a (List.replicate W 0) M W 0 0 := by
  unfold RShInv; rw [ev_replicate_zero]; simp
theorem RShInv.step {a out : List Int} {M c : Int} {W i : Nat} (h : RShInv a out M W c i) (hl : out.length = W + i) :
    RShInv a (out ++ [(a.getD i 0 * M + c) % 4294967296]) M W ((a.getD i 0 * M + c) / 4294967296) (i + 1) := by
  unfold RShInv at *
  rw [ev_append, hl, ev_take_succ', ← Nat.add_assoc, Int.pow_succ]
  have e1 := Int.emod_add_mul_ediv (a.getD i 0 * M + c) 4294967296
  generalize (a.getD i 0 * M + c) % 4294967296 = r at *
  generalize (a.getD i 0 * M + c) / 4294967296 = q at *
  have e2 : r = a.getD i 0 * M + c - 4294967296 * q := by omega
  simp only [ev_cons, ev_nil, Int.mul_zero, Int.add_zero]
  rw [e2]
  rw [Int.pow_add] at *
  generalize (4294967296 : Int) ^ i = P at *
  generalize (4294967296 : Int) ^ W = Q at *
  generalize ev out 4294967296 = E at *
  generalize ev (a.take i) 4294967296 = F at *
  generalize a.getD i 0 = x at *
  clear e1 e2
  grind
theorem RShInv.last {a out : List Int} {M c : Int} {W : Nat} (h : RShInv a out M W c a.length) (hl : out.length = W + a.length) : ev (out ++ [c]) 4294967296 = M * 4294967296 ^ W * ev a 4294967296 := by
  unfold RShInv at h
  rw [List.take_length] at h
  rw [ev_append, hl, ← h]
  simp only [ev_cons, ev_nil, Int.mul_zero, Int.add_zero]
  rw [Int.mul_comm c]
/-- quotient so far q, rest so far r -/
def DivInv (m b q r i : Nat) : Prop := m = q * b + r ∧ r < b * 2 ^ i
theorem DivInv.start {m b : Nat} (hb : b ≠ 0) (i : Nat) (h : blen m ≤ blen b + i - 1) : DivInv m b 0 m i := by
  refine ⟨by omega, ?_⟩
  have h1 := blen_lt m
  have h2 := blen_le hb
  have h3 := blen_pos hb
  have h4 : 2 ^ blen m ≤ 2 ^ (blen b - 1 + i) := Nat.pow_le_pow_right (by omega) (by omega)
  rw [Nat.pow_add] at h4
  exact Nat.lt_of_lt_of_le h1 (Nat.le_trans h4 (Nat.mul_le_mul_right _ h2))
theorem DivInv.yes {m b q r i : Nat} (h : DivInv m b q r (i + 1)) (hge : b * 2 ^ i ≤ r) : DivInv m b (q + 2 ^ i) (r - b * 2 ^ i) i := by
  obtain ⟨h1, h2⟩ := h
  rw [Nat.pow_succ, ← Nat.mul_assoc] at h2
  refine ⟨?_, by omega⟩
  rw [Nat.add_mul, Nat.mul_comm (2 ^ i)]; omega
theorem DivInv.last {m b q r : Nat} (h : DivInv m b q r 0) : q = m / b ∧ r = m % b := by
  obtain ⟨h1, h2⟩ := h
  rw [Nat.pow_zero, Nat.mul_one] at h2
  rw [h1, Nat.mul_comm, Nat.mul_add_div (by omega), Nat.mul_add_mod, Nat.div_eq_of_lt h2, Nat.mod_eq_of_lt h2]
  exact ⟨rfl, rfl⟩
end Cw
/- The bounds of Johnson in plain numbers. -/
namespace Cw
/-- the bound for words of weight w, two of which differ in at least 2 e places -/
def jc (e : Nat) : Nat → Nat → Nat
  | _, 0 => 1
  | n, w + 1 => if w + 1 < e ∨ n - (w + 1) < e then 1 else n * jc e (n - 1) w / (w + 1)
theorem jc_le {e : Nat} : ∀ (w n : Nat), n ≤ 64 → jc e n w ≤ P2 (6 * w)
  | 0, n, _ => by show 1 ≤ P2 0; exact P2_pos 0
  | w + 1, n, hn => by
    rw [jc]
    split
    · exact P2_pos _
    · have ih := jc_le (e := e) w (n - 1) (by omega)
      have h1 : n * jc e (n - 1) w ≤ P2 (6 + 6 * w) := mul_P2 (a := 6) (show n ≤ P2 6 from hn) ih
      rw [show 6 * (w + 1) = 6 + 6 * w by omega]
      exact Nat.le_trans (Nat.div_le_self _ _) h1
/-- what is left of the words at distance t + 1, times n / (t + 1) -/
def jx (n d : Nat) : Nat := binom n ((d - 1) / 2 + 1) - binom d ((d - 1) / 2) * jc ((d - 1) / 2 + 1) n d
def jden (n d : Nat) : Nat := n / ((d - 1) / 2 + 1) * psum 1 n ((d - 1) / 2 + 1) + jx n d
def johnO (n d : Nat) : Nat := n / ((d - 1) / 2 + 1) * 2 ^ n / jden n d
/-- the bound of Johnson -/
def john (n d : Nat) : Nat := if d % 2 = 0 then johnO (n - 1) (d - 1) else johnO n d
theorem jden_pos {n d : Nat} (hd : 1 ≤ d) (hdn : d ≤ n) : 0 < jden n d := by
  have h1 : 0 < n / ((d - 1) / 2 + 1) := Nat.div_pos (by omega) (by omega)
  have h2 := psum_pos (m := 1) (n := n) (i := (d - 1) / 2 + 1) (by omega)
  have := Nat.mul_pos h1 h2
  unfold jden; omega
theorem jm_le {n d : Nat} (hn : n ≤ 64) : n / ((d - 1) / 2 + 1) ≤ 64 := Nat.le_trans (Nat.div_le_self _ _) hn
theorem jnear_le {n d : Nat} (hn : n ≤ 64) (hd : d ≤ 64) : binom d ((d - 1) / 2) * jc ((d - 1) / 2 + 1) n d ≤ P2 (64 + 384) := by
  exact mul_P2 (binom_small hd _) (Nat.le_trans (jc_le d n hn) (P2_le (by omega)))
theorem jm_P2 {n d : Nat} (hn : n ≤ 64) : n / ((d - 1) / 2 + 1) ≤ P2 6 := jm_le hn
theorem jnum_le {n d : Nat} (hn : n ≤ 64) : n / ((d - 1) / 2 + 1) * 2 ^ n ≤ P2 (6 + 64) :=
  mul_P2 (jm_P2 hn) (P2_le hn)
theorem jmv_le {n d : Nat} (hn : n ≤ 64) (hd : d ≤ 64) : n / ((d - 1) / 2 + 1) * psum 1 n ((d - 1) / 2 + 1) ≤ P2 (6 + 592) :=
  mul_P2 (jm_P2 hn) (psum_small (by omega) hn (by omega))
theorem jx_le {n d : Nat} (hn : n ≤ 64) : jx n d ≤ P2 (6 + 592) :=
  Nat.le_trans (Nat.sub_le _ _) (Nat.le_trans (binom_small hn _) (P2_le (by omega)))
theorem jden_le {n d : Nat} (hn : n ≤ 64) (hd : d ≤ 64) : jden n d ≤ P2 (6 + 592 + 1) := by
  unfold jden
  exact add_P2 (jmv_le hn hd) (jx_le hn)
theorem johnO_le {n d : Nat} (hn : n ≤ 64) : johnO n d ≤ P2 (6 + 64) := Nat.le_trans (Nat.div_le_self _ _) (jnum_le hn)
end Cw
/- The bounds of Johnson: no list of binary words with distance d has more words. -/
namespace Cw
/-- three binary words: the sum of the distances is even, and at most 2 n -/
theorem tri_even : ∀ {n : Nat} {x a b : List Int}, IsW 2 n x → IsW 2 n a → IsW 2 n b → ∃ k, dist a b + dist x a + dist x b = 2 * k ∧ k ≤ n
  | 0, x, a, b, hx, ha, hb => by
    rw [List.length_eq_zero_iff.1 hx.1, List.length_eq_zero_iff.1 ha.1]
    exact ⟨0, by simp, Nat.le_refl _⟩
  | n + 1, x, a, b, hx, ha, hb => by
    cases x with
    | nil => simp [IsW] at hx
    | cons x xs =>
      cases a with
      | nil => simp [IsW] at ha
      | cons a as =>
        cases b with
        | nil => simp [IsW] at hb
        | cons b bs =>
          obtain ⟨k, h1, h2⟩ := tri_even hx.tail ha.tail hb.tail
          have e1 := hx.head
          have e2 := ha.head
          have e3 := hb.head
          simp only [dist_cons]
          by_cases h : x = a
          · by_cases h' : x = b
            · rw [if_pos h, if_pos h', if_pos (by omega)]; exact ⟨k, by omega, by omega⟩
            · rw [if_pos h, if_neg h', if_neg (by omega)]; exact ⟨k + 1, by omega, by omega⟩
          · by_cases h' : x = b
            · rw [if_neg h, if_pos h', if_neg (by omega)]; exact ⟨k + 1, by omega, by omega⟩
            · rw [if_neg h, if_neg h', if_pos (by omega)]; exact ⟨k + 1, by omega, by omega⟩
/-- a place is left out -/
theorem dist_erase : ∀ (i : Nat) (a b : List Int), a.length = b.length → i < a.length → dist (a.eraseIdx i) (b.eraseIdx i) + (if a.getD i 0 = b.getD i 0 then 0 else 1) = dist a b
  | _, [], _, _, h => by simp at h
  | _, _ :: _, [], h, _ => by simp at h
  | 0, a :: as, b :: bs, _, _ => by simp only [List.eraseIdx_zero, List.tail_cons, List.getD_cons_zero, dist_cons]; omega
  | i + 1, a :: as, b :: bs, h, hi => by
    have ih := dist_erase i as bs (by simpa using h) (by simpa using hi)
    simp only [List.eraseIdx_cons_succ, List.getD_cons_succ, dist_cons]
    omega
theorem IsW.erase {q n i : Nat} {w : List Int} (h : IsW q (n + 1) w) (hi : i < n + 1) : IsW q n (w.eraseIdx i) :=
  ⟨by rw [List.length_eraseIdx, h.1, if_pos hi]; omega, fun x hx => h.2 x ((List.eraseIdx_sublist w i).subset hx)⟩
theorem IsW.getD {q n i : Nat} {w : List Int} (h : IsW q n w) (hi : i < n) : 0 ≤ w.getD i 0 ∧ w.getD i 0 < (q : Int) := by
  rw [List.getD_eq_getElem?_getD, List.getElem?_eq_getElem (by rw [h.1]; exact hi)]
  exact h.2 _ (List.getElem_mem _)
theorem dist_range : ∀ (a b : List Int), a.length = b.length → dist a b = sm (List.range a.length) (fun i => if a.getD i 0 = b.getD i 0 then 0 else 1)
  | [], b, h => by simp
  | a :: as, [], h => by simp at h
  | a :: as, b :: bs, h => by
    have ih := dist_range as bs (by simpa using h)
    rw [List.length_cons, List.range_succ_eq_map, sm_cons, sm_map, dist_cons, ih]
    simp only [List.getD_cons_succ, List.getD_cons_zero]
/-- words of one weight -/
def One (W : List (List Int)) (x : List Int) (w e : Nat) : Prop := (∀ c ∈ W, dist x c = w) ∧ W.Pairwise (fun a b => 2 * e ≤ dist a b)
theorem one_le {n e w : Nat} {x : List Int} {W : List (List Int)} (hx : IsW 2 n x) (hW : AllW 2 n W) (h : One W x w e) (he : w < e ∨ n - w < e) : W.length ≤ 1 := by
  obtain ⟨h1, h2⟩ := h
  match W, hW, h1, h2 with
  | [], _, _, _ => simp
  | [c], _, _, _ => simp
  | c :: c' :: W, hW, h1, h2 =>
    exfalso
    rw [List.pairwise_cons] at h2
    have h3 := h2.1 c' (by simp)
    obtain ⟨k, h4, h5⟩ := tri_even hx (hW c (by simp)) (hW c' (by simp))
    have h6 := h1 c (by simp)
    have h7 := h1 c' (by simp)
    have h8 := dist_tri c x c' (by rw [hx.1, (hW c (by simp)).1]) (by rw [hx.1, (hW c' (by simp)).1])
    rw [dist_comm c x] at h8
    have h9 := dist_le x c
    rw [hx.1] at h9
    omega
theorem constant_le (e : Nat) (he : 1 ≤ e) : ∀ (w n : Nat) (x : List Int) (W : List (List Int)), IsW 2 n x → AllW 2 n W → One W x w e → W.length ≤ jc e n w
  | 0, n, x, W, hx, hW, h => by
    rw [jc]
    exact one_le hx hW h (.inl (by omega))
  | w + 1, n, x, W, hx, hW, h => by
    rw [jc]
    by_cases hc : w + 1 < e ∨ n - (w + 1) < e
    · rw [if_pos hc]
      exact one_le hx hW h hc
    · rw [if_neg hc]
      rw [Nat.le_div_iff_mul_le (by omega)]
      cases n with
      | zero => exfalso; omega
      | succ n =>
        rw [Nat.add_sub_cancel]
        have h1 : sm W (fun c => dist x c) = W.length * (w + 1) := by rw [sm_congr (fun c hc => h.1 c hc), sm_const]
        have h2 : sm W (fun c => dist x c) = sm W (fun c => sm (List.range (n + 1)) (fun i => if x.getD i 0 = c.getD i 0 then 0 else 1)) := by
          refine sm_congr fun c hc => ?_
          rw [dist_range x c (by rw [hx.1, (hW c hc).1]), hx.1]
        rw [h2, sm_comm] at h1
        have h3 : sm (List.range (n + 1)) (fun i => sm W (fun c => if x.getD i 0 = c.getD i 0 then 0 else 1)) ≤ sm (List.range (n + 1)) (fun _ => jc e n w) := by
          refine sm_le fun i hi => ?_
          have hi' : i < n + 1 := List.mem_range.1 hi
          have e1 : sm W (fun c => if x.getD i 0 = c.getD i 0 then 0 else 1) = (W.filter (fun c => decide (x.getD i 0 ≠ c.getD i 0))).length := by
            rw [← sm_length_filter]
            refine sm_congr fun c _ => ?_
            by_cases hh : x.getD i 0 = c.getD i 0
            · rw [if_pos hh, if_neg (by simpa using hh)]
            · rw [if_neg hh, if_pos (by simpa using hh)]
          have hmem : ∀ c ∈ W.filter (fun c => decide (x.getD i 0 ≠ c.getD i 0)), c ∈ W ∧ x.getD i 0 ≠ c.getD i 0 := fun c hc => by
            have := List.mem_filter.1 hc
            exact ⟨this.1, by simpa using this.2⟩
          rw [e1, ← List.length_map (f := fun c => List.eraseIdx c i)]
          refine constant_le e he w n (x.eraseIdx i) _ (hx.erase hi') ?_ ⟨?_, ?_⟩
          · intro c hc
            obtain ⟨c', hc', rfl⟩ := List.mem_map.1 hc
            exact (hW c' (hmem c' hc').1).erase hi'
          · intro c hc
            obtain ⟨c', hc', rfl⟩ := List.mem_map.1 hc
            have h4 := dist_erase i x c' (by rw [hx.1, (hW c' (hmem c' hc').1).1]) (by rw [hx.1]; exact hi')
            rw [if_neg (hmem c' hc').2, h.1 c' (hmem c' hc').1] at h4
            omega
          · rw [List.pairwise_map]
            refine (List.Pairwise.filter _ h.2).imp_of_mem ?_
            intro a b ha hb hab
            obtain ⟨ha1, ha2⟩ := hmem a ha
            obtain ⟨hb1, hb2⟩ := hmem b hb
            have h4 := dist_erase i a b (by rw [(hW a ha1).1, (hW b hb1).1]) (by rw [(hW a ha1).1]; exact hi')
            have e1 := hx.getD hi'
            have e2 := (hW a ha1).getD hi'
            have e3 := (hW b hb1).getD hi'
            rw [if_pos (by omega)] at h4
            omega
        rw [sm_const, List.length_range] at h3
        omega
/-- distances of words of one weight are even -/
theorem one_of {n d w : Nat} {x : List Int} {W : List (List Int)} (hx : IsW 2 n x) (hW : AllW 2 n W) (h : ∀ c ∈ W, dist x c = w) (hA : Apart d W) : One W x w ((d + 1) / 2) := by
  refine ⟨h, ?_⟩
  unfold Apart at hA
  refine hA.imp_of_mem ?_
  intro a b ha hb hab
  obtain ⟨k, h1, h2⟩ := tri_even hx (hW a ha) (hW b hb)
  have h3 := h a ha
  have h4 := h b hb
  omega
theorem Constant_le {n d w : Nat} {x : List Int} {W : List (List Int)} (hd : 1 ≤ d) (hx : IsW 2 n x) (hW : AllW 2 n W) (hA : Apart d W) (p : List Int → Bool) (hp : ∀ c ∈ W, p c = true → dist x c = w) :
    (W.filter p).length ≤ jc ((d + 1) / 2) n w :=
  constant_le _ (by omega) w n x _ hx (fun c hc => hW c (List.mem_filter.1 hc).1)
    (one_of hx (fun c hc => hW c (List.mem_filter.1 hc).1) (fun c hc => hp c (List.mem_filter.1 hc).1 (List.mem_filter.1 hc).2) (hA.filter p))
/-- words at distance i from c and j from c', where c and c' are at distance i + j -/
theorem between : ∀ {n : Nat} {c c' : List Int} {i j : Nat}, IsW 2 n c → IsW 2 n c' → i + j ≤ dist c c' →
    sm (allw 2 n) (fun y => if dist y c = i ∧ dist y c' = j then 1 else 0) ≤ (if i + j = dist c c' then binom (i + j) j else 0)
  | 0, c, c', i, j, hc, hc', h => by
    rw [List.length_eq_zero_iff.1 hc.1] at *
    rw [dist_nil] at *
    have h1 : i = 0 := by omega
    have h2 : j = 0 := by omega
    subst h1; subst h2
    simp [allw]
  | n + 1, c, c', i, j, hc, hc', h => by
    cases c with
    | nil => simp [IsW] at hc
    | cons a as =>
      cases c' with
      | nil => simp [IsW] at hc'
      | cons b bs =>
        have ea := hc.head
        have eb := hc'.head
        have hl : letters 2 = [0, 1] := rfl
        simp only [allw, sm_flatMap, sm_map, hl, sm_cons, sm_nil, Nat.add_zero]
        -- a letter v in front
        have one : ∀ (v : Int) (p q : Nat), (if v = a then 0 else 1) = p → (if v = b then 0 else 1) = q →
            sm (allw 2 n) (fun w => if dist (v :: w) (a :: as) = i ∧ dist (v :: w) (b :: bs) = j then 1 else 0) =
              if p ≤ i ∧ q ≤ j then sm (allw 2 n) (fun w => if dist w as = i - p ∧ dist w bs = j - q then 1 else 0) else 0 := by
          intro v p q hp hq
          by_cases hpq : p ≤ i ∧ q ≤ j
          · rw [if_pos hpq]
            refine sm_congr fun w _ => ?_
            have e1 : dist (v :: w) (a :: as) = p + dist w as := by rw [dist_cons, hp]
            have e2 : dist (v :: w) (b :: bs) = q + dist w bs := by rw [dist_cons, hq]
            by_cases hh : dist w as = i - p ∧ dist w bs = j - q
            · rw [if_pos hh, if_pos (by omega)]
            · rw [if_neg hh, if_neg (by omega)]
          · rw [if_neg hpq]
            refine sm_zero fun w _ => ?_
            have e1 : dist (v :: w) (a :: as) = p + dist w as := by rw [dist_cons, hp]
            have e2 : dist (v :: w) (b :: bs) = q + dist w bs := by rw [dist_cons, hq]
            rw [if_neg (by omega)]
        by_cases hab : a = b
        · subst hab
          have hd : dist (a :: as) (a :: bs) = dist as bs := by rw [dist_cons, if_pos rfl, Nat.zero_add]
          rw [hd] at h ⊢
          have same := one a 0 0 (if_pos rfl) (if_pos rfl)
          rw [if_pos (by omega), Nat.sub_zero, Nat.sub_zero] at same
          have ih := between hc.tail hc'.tail h
          obtain ⟨v, hv, hor⟩ : ∃ v : Int, v ≠ a ∧ ((a = 0 ∧ v = 1) ∨ (a = 1 ∧ v = 0)) := by
            rcases (by omega : a = 0 ∨ a = 1) with h0 | h0
            · exact ⟨1, by omega, .inl ⟨h0, rfl⟩⟩
            · exact ⟨0, by omega, .inr ⟨h0, rfl⟩⟩
          have other := one v 1 1 (if_neg hv) (if_neg hv)
          have oz : (if 1 ≤ i ∧ 1 ≤ j then sm (allw 2 n) (fun w => if dist w as = i - 1 ∧ dist w bs = j - 1 then 1 else 0) else 0) = 0 := by
            by_cases hh : 1 ≤ i ∧ 1 ≤ j
            · rw [if_pos hh]
              have ih2 := between (i := i - 1) (j := j - 1) hc.tail hc'.tail (by omega)
              rw [if_neg (by omega)] at ih2
              omega
            · rw [if_neg hh]
          rw [oz] at other
          rcases hor with ⟨h0, h1⟩ | ⟨h0, h1⟩
          · rw [h1] at other; rw [h0] at same other ⊢
            omega
          · rw [h1] at other; rw [h0] at same other ⊢
            omega
        · have hd : dist (a :: as) (b :: bs) = 1 + dist as bs := by rw [dist_cons, if_neg hab]
          rw [hd] at h ⊢
          have la := one a 0 1 (if_pos rfl) (if_neg hab)
          have lb := one b 1 0 (if_neg (fun e => hab e.symm)) (if_pos rfl)
          have fa : (if 0 ≤ i ∧ 1 ≤ j then sm (allw 2 n) (fun w => if dist w as = i - 0 ∧ dist w bs = j - 1 then 1 else 0) else 0) ≤ if i + j = 1 + dist as bs then (if 1 ≤ j then binom (i + j - 1) (j - 1) else 0) else 0 := by
            by_cases hh : 1 ≤ j
            · rw [if_pos ⟨by omega, hh⟩, if_pos hh]
              have ih := between (i := i - 0) (j := j - 1) hc.tail hc'.tail (by omega)
              rw [show i - 0 + (j - 1) = i + j - 1 by omega] at ih
              by_cases hs : i + j = 1 + dist as bs
              · rw [if_pos hs]; rw [if_pos (by omega)] at ih; exact ih
              · rw [if_neg hs]; rw [if_neg (by omega)] at ih; exact ih
            · rw [if_neg (by omega)]; omega
          have fb : (if 1 ≤ i ∧ 0 ≤ j then sm (allw 2 n) (fun w => if dist w as = i - 1 ∧ dist w bs = j - 0 then 1 else 0) else 0) ≤ if i + j = 1 + dist as bs then (if 1 ≤ i then binom (i + j - 1) j else 0) else 0 := by
            by_cases hh : 1 ≤ i
            · rw [if_pos ⟨hh, by omega⟩, if_pos hh]
              have ih := between (i := i - 1) (j := j - 0) hc.tail hc'.tail (by omega)
              rw [show i - 1 + (j - 0) = i + j - 1 by omega, show j - 0 = j by omega] at ih
              by_cases hs : i + j = 1 + dist as bs
              · rw [if_pos hs]; rw [if_pos (by omega)] at ih; exact ih
              · rw [if_neg hs]; rw [if_neg (by omega)] at ih; exact ih
            · rw [if_neg (by omega)]; omega
          have fin : (if i + j = 1 + dist as bs then (if 1 ≤ j then binom (i + j - 1) (j - 1) else 0) else 0) + (if i + j = 1 + dist as bs then (if 1 ≤ i then binom (i + j - 1) j else 0) else 0) ≤ if i + j = 1 + dist as bs then binom (i + j) j else 0 := by
            by_cases hs : i + j = 1 + dist as bs
            · rw [if_pos hs, if_pos hs, if_pos hs]
              cases j with
              | zero =>
                rw [if_neg (by omega), binom_zero, binom_zero]
                split <;> omega
              | succ j =>
                rw [if_pos (by omega), show i + (j + 1) - 1 = i + j by omega, Nat.add_sub_cancel, show i + (j + 1) = i + j + 1 by omega, binom_succ]
                split <;> omega
            · rw [if_neg hs, if_neg hs, if_neg hs]; exact Nat.le_refl _
          rcases (by omega : (a = 0 ∧ b = 1) ∨ (a = 1 ∧ b = 0)) with ⟨h0, h1⟩ | ⟨h0, h1⟩
          · rw [h0, h1] at la lb ⊢
            omega
          · rw [h0, h1] at la lb ⊢
            omega
/-- the words at distance r from a word -/
theorem sphere {n : Nat} {c : List Int} (hc : IsW 2 n c) (r : Nat) : sm (allw 2 n) (fun y => if dist y c = r then 1 else 0) = binom n r := by
  have h1 := ball hc r
  have h2 := ball hc (r + 1)
  rw [psum_succ, Nat.one_pow, Nat.mul_one] at h2
  have h3 : sm (allw 2 n) (fun y => (if dist y c < r then 1 else 0) + (if dist y c = r then 1 else 0)) = sm (allw 2 n) (fun x => if dist x c < r + 1 then 1 else 0) := by
    refine sm_congr fun y _ => ?_
    by_cases hh : dist y c < r
    · rw [if_pos hh, if_neg (by omega), if_pos (by omega)]
    · by_cases h' : dist y c = r
      · rw [if_neg hh, if_pos h', if_pos (by omega)]
      · rw [if_neg hh, if_neg h', if_neg (by omega)]
  rw [sm_add] at h3
  omega
theorem sm_pos {α : Type} {l : List α} {f : α → Nat} (h : 0 < sm l f) : ∃ x ∈ l, 0 < f x := by
  induction l with
  | nil => simp at h
  | cons a l ih =>
    rw [sm_cons] at h
    by_cases ha : 0 < f a
    · exact ⟨a, by simp, ha⟩
    · obtain ⟨x, hx, h'⟩ := ih (by omega)
      exact ⟨x, by simp [hx], h'⟩
theorem sm_ge {α : Type} {l : List α} {f : α → Nat} {x : α} (h : x ∈ l) : f x ≤ sm l f := by
  induction l with
  | nil => simp at h
  | cons a l ih =>
    rw [sm_cons]
    rcases List.mem_cons.1 h with h | h
    · subst h; omega
    · have := ih h; omega
theorem jc_thin {n t : Nat} (hn : t + 1 ≤ n) : jc (t + 1) n (t + 1) ≤ n / (t + 1) := by
  rw [jc]
  have h1 : 1 ≤ n / (t + 1) := Nat.div_pos hn (by omega)
  split
  · exact h1
  · have h2 : jc (t + 1) (n - 1) t = 1 := by
      cases t with
      | zero => rfl
      | succ t => rw [jc, if_pos (.inl (by omega))]
    rw [h2, Nat.mul_one]
    exact Nat.le_refl _
/-- two words of the list are at distance d or more, or they are one and the same -/
theorem Apart.two {d : Nat} : ∀ {W : List (List Int)}, Apart d W → ∀ a ∈ W, ∀ b ∈ W, a = b ∨ d ≤ dist a b
  | [], _, a, ha, _, _ => by simp at ha
  | c :: W, h, a, ha, b, hb => by
    unfold Apart at h
    rw [List.pairwise_cons] at h
    rcases List.mem_cons.1 ha with h1 | h1
    · rcases List.mem_cons.1 hb with h2 | h2
      · exact .inl (h1.trans h2.symm)
      · exact .inr (by rw [h1]; exact h.1 b h2)
    · rcases List.mem_cons.1 hb with h2 | h2
      · exact .inr (by rw [h2, dist_comm]; exact h.1 a h1)
      · exact Apart.two h.2 a h1 b h2
/-- how many words of W are within t of y -/
def near (W : List (List Int)) (t : Nat) (y : List Int) : Nat := sm W (fun c => if dist y c < t + 1 then 1 else 0)
/-- the words at distance t + 1 from c that are not within t of any word -/
theorem free_ge {n t : Nat} {W : List (List Int)} (hW : AllW 2 n W) (hA : Apart (2 * t + 1) W) {c : List Int} (hc : c ∈ W) :
    binom n (t + 1) ≤ sm (allw 2 n) (fun y => if dist y c = t + 1 ∧ near W t y = 0 then 1 else 0) + binom (2 * t + 1) t * jc (t + 1) n (2 * t + 1) := by
  rw [← sphere (hW c hc) (t + 1)]
  have h1 : sm (allw 2 n) (fun y => if dist y c = t + 1 then 1 else 0) ≤ sm (allw 2 n) (fun y => (if dist y c = t + 1 ∧ near W t y = 0 then 1 else 0) +
      sm (W.filter (fun c' => decide (dist c c' = 2 * t + 1))) (fun c' => if dist y c = t + 1 ∧ dist y c' = t then 1 else 0)) := by
    refine sm_le fun y hy => ?_
    by_cases hd : dist y c = t + 1
    · by_cases hz : near W t y = 0
      · rw [if_pos hd, if_pos ⟨hd, hz⟩]; omega
      · rw [if_pos hd]
        obtain ⟨c', hc', hp⟩ := sm_pos (Nat.pos_of_ne_zero hz)
        have hlt : dist y c' < t + 1 := by
          by_cases hh : dist y c' < t + 1
          · exact hh
          · rw [if_neg hh] at hp; omega
        have hyW := allw_isW hy
        have htri := dist_tri c y c' (by rw [hyW.1, (hW c hc).1]) (by rw [hyW.1, (hW c' hc').1])
        rw [dist_comm c y] at htri
        have hge : 2 * t + 1 ≤ dist c c' := by
          rcases hA.two c hc c' hc' with h | h
          · exfalso; subst h; omega
          · exact h
        have hmem : c' ∈ W.filter (fun c' => decide (dist c c' = 2 * t + 1)) := List.mem_filter.2 ⟨hc', by simp; omega⟩
        have := sm_ge (f := fun c' => if dist y c = t + 1 ∧ dist y c' = t then 1 else 0) hmem
        have e : (if dist y c = t + 1 ∧ dist y c' = t then 1 else 0) = 1 := if_pos (by omega)
        have e' : (fun c' => if dist y c = t + 1 ∧ dist y c' = t then 1 else 0) c' = 1 := e
        omega
    · rw [if_neg hd]; omega
  rw [sm_add, sm_comm] at h1
  have h2 : sm (W.filter (fun c' => decide (dist c c' = 2 * t + 1))) (fun c' => sm (allw 2 n) (fun y => if dist y c = t + 1 ∧ dist y c' = t then 1 else 0)) ≤
      sm (W.filter (fun c' => decide (dist c c' = 2 * t + 1))) (fun _ => binom (2 * t + 1) t) := by
    refine sm_le fun c' hc' => ?_
    obtain ⟨hm, he⟩ := List.mem_filter.1 hc'
    have he : dist c c' = 2 * t + 1 := by simpa using he
    have := between (i := t + 1) (j := t) (hW c hc) (hW c' hm) (by omega)
    rw [if_pos (by omega), show t + 1 + t = 2 * t + 1 by omega] at this
    exact this
  rw [sm_const] at h2
  have h3 := Constant_le (d := 2 * t + 1) (w := 2 * t + 1) (by omega) (hW c hc) hW hA (fun c' => decide (dist c c' = 2 * t + 1)) (fun c' _ h => by simpa using h)
  rw [show (2 * t + 1 + 1) / 2 = t + 1 by omega] at h3
  have h4 := Nat.mul_le_mul_right (binom (2 * t + 1) t) h3
  rw [Nat.mul_comm (jc _ _ _)] at h4
  omega
/-- the bound of Johnson for an odd distance -/
theorem johnson_odd {n t : Nat} {W : List (List Int)} (hn : 2 * t + 1 ≤ n) (hW : AllW 2 n W) (hA : Apart (2 * t + 1) W) : W.length ≤ johnO n (2 * t + 1) := by
  unfold johnO
  rw [Nat.le_div_iff_mul_le (jden_pos (by omega) hn)]
  unfold jden jx
  rw [show (2 * t + 1 - 1) / 2 = t by omega]
  -- the balls, and the words that lie in none
  have hball : sm (allw 2 n) (fun y => near W t y) = W.length * psum 1 n (t + 1) := by
    unfold near
    rw [sm_comm, sm_congr (fun c hc => ball (hW c hc) (t + 1)), sm_const]
  have hsum : sm (allw 2 n) (fun y => near W t y + (if near W t y = 0 then 1 else 0)) ≤ sm (allw 2 n) (fun _ => 1) := by
    refine sm_le fun y hy => ?_
    have := one_ball (allw_isW hy).1 (by omega : 2 * t < 2 * t + 1) hW hA
    have e : near W t y ≤ 1 := this
    split <;> omega
  rw [sm_const, allw_length, Nat.mul_one, sm_add, hball] at hsum
  -- from the words' side
  have hM : W.length * (binom n (t + 1) - binom (2 * t + 1) t * jc (t + 1) n (2 * t + 1)) ≤ sm W (fun c => sm (allw 2 n) (fun y => if dist y c = t + 1 ∧ near W t y = 0 then 1 else 0)) := by
    rw [← sm_const]
    exact sm_le fun c hc => by have := free_ge hW hA hc; omega
  rw [sm_comm] at hM
  have hN : sm (allw 2 n) (fun y => sm W (fun c => if dist y c = t + 1 ∧ near W t y = 0 then 1 else 0)) ≤ sm (allw 2 n) (fun y => n / (t + 1) * (if near W t y = 0 then 1 else 0)) := by
    refine sm_le fun y hy => ?_
    by_cases hz : near W t y = 0
    · rw [if_pos hz, Nat.mul_one]
      have e : sm W (fun c => if dist y c = t + 1 ∧ near W t y = 0 then 1 else 0) = (W.filter (fun c => decide (dist y c = t + 1))).length := by
        rw [← sm_length_filter]
        refine sm_congr fun c _ => ?_
        by_cases hh : dist y c = t + 1
        · rw [if_pos ⟨hh, hz⟩, if_pos (by simpa using hh)]
        · rw [if_neg (fun h => hh h.1), if_neg (by simpa using hh)]
      rw [e]
      have h3 := Constant_le (d := 2 * t + 1) (w := t + 1) (by omega) (allw_isW hy) hW hA (fun c' => decide (dist y c' = t + 1)) (fun c' _ h => by simpa using h)
      rw [show (2 * t + 1 + 1) / 2 = t + 1 by omega] at h3
      exact Nat.le_trans h3 (jc_thin (by omega))
    · rw [if_neg hz, Nat.mul_zero, sm_zero]
      · exact Nat.le_refl _
      · intro c _; rw [if_neg (fun h => hz h.2)]
  rw [sm_mul] at hN
  generalize sm (allw 2 n) (fun y => if near W t y = 0 then 1 else 0) = N at *
  generalize binom n (t + 1) - binom (2 * t + 1) t * jc (t + 1) n (2 * t + 1) = X at *
  generalize n / (t + 1) = m at *
  have h5 := Nat.mul_le_mul_left m hsum
  rw [Nat.mul_add] at h5
  have e1 : W.length * (m * psum 1 n (t + 1) + X) = m * (W.length * psum 1 n (t + 1)) + W.length * X := by
    rw [Nat.mul_add, Nat.mul_left_comm]
  rw [e1]
  omega
theorem johnson {n d : Nat} {W : List (List Int)} (hd : 1 ≤ d) (hdn : d ≤ n) (hW : AllW 2 n W) (hA : Apart d W) : W.length ≤ john n d := by
  unfold john
  by_cases h : d % 2 = 0
  · rw [if_pos h]
    obtain ⟨t, ht⟩ : ∃ t, d - 1 = 2 * t + 1 := ⟨(d - 2) / 2, by omega⟩
    rw [ht, ← List.length_map (f := fun c => List.take (n - 1) c)]
    refine johnson_odd (by omega) ?_ ?_
    · intro c hc
      obtain ⟨c', hc', rfl⟩ := List.mem_map.1 hc
      exact (hW c' hc').take (by omega)
    · unfold Apart at hA ⊢
      rw [List.pairwise_map]
      refine hA.imp_of_mem ?_
      intro a b ha hb hab
      have h1 := dist_take (n - 1) a b (by rw [(hW a ha).1, (hW b hb).1])
      rw [(hW a ha).1] at h1
      omega
  · rw [if_neg h]
    obtain ⟨t, rfl⟩ : ∃ t, d = 2 * t + 1 := ⟨(d - 1) / 2, by omega⟩
    exact johnson_odd hdn hW hA
end Cw
