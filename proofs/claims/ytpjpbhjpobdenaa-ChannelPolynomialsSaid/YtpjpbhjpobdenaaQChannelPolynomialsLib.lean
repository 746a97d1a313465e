/- Integer polynomials as lists of coefficients, by their values. -/
import Derived.Test.YtpjpbhjpobdenaaQChannelPolynomialsAb
import Derived.Deep.Slices
import Derived.Lib.SmallJoins
import Derived.SizedLaws
namespace Cw
/-- the value at t of the polynomial with these coefficients, constant first -/
def ev : List Int → Int → Int
 | [], _ => 0
 | c :: cs, t => c + t * ev cs t
def padd : List Int → List Int → List Int
 | [], b => b
 | x :: a, [] => x :: a
 | x :: a, y :: b => (x + y) :: padd a b
def pscale (c : Int) (a : List Int) : List Int := a.map (fun x => c * x)
def pmul : List Int → List Int → List Int
 | [], _ => []
 | x :: a, b => padd (pscale x b) (0 :: pmul a b)
@[simp] theorem ev_nil (t : Int) : ev [] t = 0 := rfl
@[simp] theorem ev_cons (c : Int) (cs : List Int) (t : Int) : ev (c :: cs) t = c + t * ev cs t := rfl
theorem ev_padd (a b : List Int) (t : Int) : ev (padd a b) t = ev a t + ev b t := by
 induction a generalizing b with
 | nil => simp [padd]
 | cons x a ih =>
  cases b with
  | nil => simp [padd]
  | cons y b => simp only [padd, ev_cons, ih, Int.mul_add]; omega
theorem ev_pscale (c : Int) (a : List Int) (t : Int) : ev (pscale c a) t = c * ev a t := by
 induction a with
 | nil => simp [pscale]
 | cons x a ih =>
  have ih' : ev (List.map (fun x => c * x) a) t = c * ev a t := ih
  simp only [pscale, List.map_cons, ev_cons, ih', Int.mul_add]
  rw [← Int.mul_assoc, ← Int.mul_assoc, Int.mul_comm t c]
theorem ev_pmul (a b : List Int) (t : Int) : ev (pmul a b) t = ev a t * ev b t := by
 induction a with
 | nil => simp [pmul]
 | cons x a ih =>
  simp only [pmul, ev_padd, ev_pscale, ev_cons, ih, Int.zero_add, Int.add_mul, Int.mul_assoc]
theorem ev_append (a b : List Int) (t : Int) : ev (a ++ b) t = ev a t + t ^ a.length * ev b t := by
 induction a with
 | nil => simp
 | cons x a ih =>
  simp only [List.cons_append, ev_cons, ih, List.length_cons, Int.pow_succ, Int.mul_add]
  rw [← Int.mul_assoc, Int.mul_comm t (t ^ a.length)]; omega
theorem ev_replicate_zero (n : Nat) (t : Int) : ev (List.replicate n 0) t = 0 := by
 induction n with
 | zero => rfl
 | succ n ih => simp [List.replicate_succ, ih]
theorem ev_zeros (a : List Int) (h : ∀ c ∈ a, c = 0) (t : Int) : ev a t = 0 := by
 induction a with
 | nil => rfl
 | cons x a ih =>
  rw [ev_cons, h x (by simp), ih (fun c hc => h c (by simp [hc]))]; simp
/-- a and b are congruent modulo p and the monic polynomial with the low coefficients low -/
def Cong (p : Int) (low : List Int) (a b : List Int) : Prop :=
 ∃ h u : List Int, ∀ t, ev a t = ev b t + ev (low ++ [1]) t * ev h t + p * ev u t
theorem Cong.refl (p : Int) (low a : List Int) : Cong p low a a := ⟨[], [], fun t => by simp⟩
theorem Cong.of_ev {p : Int} {low a b : List Int} (h : ∀ t, ev a t = ev b t) : Cong p low a b :=
 ⟨[], [], fun t => by simp [h t]⟩
theorem Cong.symm {p : Int} {low a b : List Int} (h : Cong p low a b) : Cong p low b a := by
 obtain ⟨x, u, e⟩ := h
 refine ⟨pscale (-1) x, pscale (-1) u, fun t => ?_⟩
 rw [e t, ev_pscale, ev_pscale, Int.mul_left_comm, Int.mul_left_comm p]; omega
theorem Cong.trans {p : Int} {low a b c : List Int} (h : Cong p low a b) (k : Cong p low b c) : Cong p low a c := by
 obtain ⟨x, u, e⟩ := h
 obtain ⟨y, v, f⟩ := k
 refine ⟨padd x y, padd u v, fun t => ?_⟩
 rw [e t, f t, ev_padd, ev_padd, Int.mul_add, Int.mul_add]; omega
theorem Cong.add {p : Int} {low a b c d : List Int} (h : Cong p low a b) (k : Cong p low c d) : Cong p low (padd a c) (padd b d) := by
 obtain ⟨x, u, e⟩ := h
 obtain ⟨y, v, f⟩ := k
 refine ⟨padd x y, padd u v, fun t => ?_⟩
 rw [ev_padd, ev_padd, e t, f t, ev_padd, ev_padd, Int.mul_add, Int.mul_add]; omega
theorem Cong.mul_left {p : Int} {low a b : List Int} (c : List Int) (h : Cong p low a b) : Cong p low (pmul c a) (pmul c b) := by
 obtain ⟨x, u, e⟩ := h
 refine ⟨pmul c x, pmul c u, fun t => ?_⟩
 rw [ev_pmul, ev_pmul, e t, ev_pmul, ev_pmul, Int.mul_add, Int.mul_add, Int.mul_left_comm, Int.mul_left_comm p]
theorem Cong.mul_comm (p : Int) (low a b : List Int) : Cong p low (pmul a b) (pmul b a) :=
 Cong.of_ev fun t => by rw [ev_pmul, ev_pmul, Int.mul_comm]
theorem Cong.mul {p : Int} {low a b c d : List Int} (h : Cong p low a b) (k : Cong p low c d) : Cong p low (pmul a c) (pmul b d) :=
 ((k.mul_left a).trans (Cong.mul_comm ..)).trans ((h.mul_left d).trans (Cong.mul_comm ..))
theorem getD_none' (a : List Int) (i : Nat) (h : a.length ≤ i) : a.getD i 0 = 0 := by
 rw [List.getD_eq_getElem?_getD, List.getElem?_eq_none h]; rfl
/-- reduced lists: so many entries, each from 0 to p-1 -/
def Red (p : Int) (M : Nat) (a : List Int) : Prop := a.length = M ∧ ∀ c ∈ a, 0 ≤ c ∧ c < p
theorem Red.getD {p : Int} {M : Nat} {a : List Int} (h : Red p M a) (hp : 0 < p) (i : Nat) : 0 ≤ a.getD i 0 ∧ a.getD i 0 < p := by
 by_cases hi : i < a.length
 ·
  rw [List.getD_eq_getElem?_getD, List.getElem?_eq_getElem hi]
  exact h.2 _ (List.getElem_mem hi)
 ·
  rw [getD_none' a i (by omega)]; omega
theorem ext_getD {a b : List Int} (hl : a.length = b.length) (h : ∀ i, i < a.length → a.getD i 0 = b.getD i 0) : a = b := by
 apply List.ext_getElem hl
 intro i h1 h2
 have := h i h1
 rw [List.getD_eq_getElem?_getD, List.getD_eq_getElem?_getD, List.getElem?_eq_getElem h1, List.getElem?_eq_getElem h2] at this
 exact this
end Cw
/- Lists of limbs in base 2^32, and the numbers that they stand for. -/
namespace Cw
theorem ev_set (B : Int) (xs : List Int) : ∀ (i : Nat) (v : Int), i < xs.length → ev (xs.set i v) B = ev xs B + (v - xs.getD i 0) * B ^ i := by
 induction xs with
 | nil => intro i v h; simp at h
 | cons x xs ih =>
  intro i v h
  cases i with
  | zero => simp; omega
  | succ i =>
   have := ih i v (by simpa using h)
   simp only [List.set_cons_succ, ev_cons, this, List.getD_cons_succ, Int.pow_succ]
   grind
theorem ev_take_succ (B : Int) (xs : List Int) : ∀ (i : Nat), i < xs.length → ev (xs.take (i + 1)) B = ev (xs.take i) B + xs.getD i 0 * B ^ i := by
 induction xs with
 | nil => intro i h; simp at h
 | cons x xs ih =>
  intro i h
  cases i with
  | zero => simp
  | succ i =>
   have := ih i (by simpa using h)
   simp only [List.take_succ_cons, ev_cons, this, List.getD_cons_succ, Int.pow_succ]
   grind
theorem ev_take_succ' (B : Int) (xs : List Int) (i : Nat) : ev (xs.take (i + 1)) B = ev (xs.take i) B + xs.getD i 0 * B ^ i := by
 by_cases h : i < xs.length
 ·
  exact ev_take_succ B xs i h
 ·
  rw [List.take_of_length_le (by omega), List.take_of_length_le (by omega), getD_none' xs i (by omega)]; simp
/-- i limbs of a and b are added; c is carried -/
def PlusInv (a b out : List Int) (c : Int) (i : Nat) : Prop :=
 ev out 4294967296 + c * 4294967296 ^ i = ev (a.take i) 4294967296 + ev (b.take i) 4294967296
theorem PlusInv.step {a b out : List Int} {c : Int} {i : Nat} (h : PlusInv a b out c i) (hi : i < out.length) (hz : out.getD i 0 = 0) :
  PlusInv a b (out.set i ((a.getD i 0 + c + b.getD i 0) % 4294967296)) ((a.getD i 0 + c + b.getD i 0) / 4294967296) (i + 1) := by
 unfold PlusInv at *
 rw [ev_set _ _ _ _ hi, hz, ev_take_succ', ev_take_succ', Int.pow_succ]
 have e1 := Int.emod_add_mul_ediv (a.getD i 0 + c + b.getD i 0) 4294967296
 generalize (4294967296 : Int) ^ i = P at *
 generalize ev out 4294967296 = E at *
 generalize (a.getD i 0 + c + b.getD i 0) % 4294967296 = r at *
 generalize (a.getD i 0 + c + b.getD i 0) / 4294967296 = q at *
 have e2 : r = a.getD i 0 + c + b.getD i 0 - 4294967296 * q := by omega
 rw [e2]
 grind
theorem PlusInv.start (a b : List Int) (n : Nat) : PlusInv a b (List.replicate n 0) 0 0 := by
 unfold PlusInv; rw [ev_replicate_zero]; simp
theorem PlusInv.last {a b out : List Int} {c : Int} {i : Nat} (h : PlusInv a b out c i) (ha : a.length ≤ i) (hb : b.length ≤ i) (hi : i < out.length) (hz : out.getD i 0 = 0) :
  ev (out.set i c) 4294967296 = ev a 4294967296 + ev b 4294967296 := by
 unfold PlusInv at h
 rw [List.take_of_length_le ha, List.take_of_length_le hb] at h
 rw [ev_set _ _ _ _ hi, hz, ← h]
 have : (c - 0) = c := by omega
 rw [this]
/-- a.take i is multiplied, and a[i] with j limbs of b; c is carried -/
def TimesInv (a b out : List Int) (c : Int) (i j : Nat) : Prop :=
 ev out 4294967296 + c * 4294967296 ^ (i + j) = ev (a.take i) 4294967296 * ev b 4294967296 + a.getD i 0 * ev (b.take j) 4294967296 * 4294967296 ^ i
theorem TimesInv.step {a b out : List Int} {c : Int} {i j : Nat} (h : TimesInv a b out c i j) (hi : i + j < out.length) :
  TimesInv a b (out.set (i + j) ((a.getD i 0 * b.getD j 0 + out.getD (i + j) 0 + c) % 4294967296)) ((a.getD i 0 * b.getD j 0 + out.getD (i + j) 0 + c) / 4294967296) i (j + 1) := by
 unfold TimesInv at *
 rw [ev_set _ _ _ _ hi, ev_take_succ' _ b, ← Nat.add_assoc, Int.pow_succ]
 have e1 := Int.emod_add_mul_ediv (a.getD i 0 * b.getD j 0 + out.getD (i + j) 0 + c) 4294967296
 generalize (a.getD i 0 * b.getD j 0 + out.getD (i + j) 0 + c) % 4294967296 = r at *
 generalize (a.getD i 0 * b.getD j 0 + out.getD (i + j) 0 + c) / 4294967296 = q at *
 rw [Int.pow_add] at *
 generalize (4294967296 : Int) ^ i = P at *
 generalize (4294967296 : Int) ^ j = Q at *
 generalize ev out 4294967296 = E at *
 generalize ev (b.take j) 4294967296 = F at *
 generalize ev (a.take i) 4294967296 * ev b 4294967296 = G at *
 grind
theorem TimesInv.next {a b out : List Int} {c : Int} {i : Nat} (h : TimesInv a b out c i b.length) (hi : i + b.length < out.length) (hz : out.getD (i + b.length) 0 = 0) :
  TimesInv a b (out.set (i + b.length) c) 0 (i + 1) 0 := by
 unfold TimesInv at *
 rw [ev_set _ _ _ _ hi, hz, ev_take_succ' _ a]
 rw [List.take_length] at h
 simp only [List.take_zero, ev_nil, Int.mul_zero, Int.zero_mul, Int.add_zero, Int.add_mul, Int.sub_zero]
 rw [h, Int.mul_right_comm]
theorem TimesInv.start (a b : List Int) (n : Nat) : TimesInv a b (List.replicate n 0) 0 0 0 := by
 unfold TimesInv; rw [ev_replicate_zero]; simp
theorem TimesInv.last {a b out : List Int} {i : Nat} (h : TimesInv a b out 0 i 0) (hi : a.length ≤ i) : ev out 4294967296 = ev a 4294967296 * ev b 4294967296 := by
 unfold TimesInv at h
 rw [List.take_of_length_le hi] at h
 simpa using h
/-- a is divided by d from the top down to index i; r is the rest -/
def DigInv (a : List Int) (d : Int) (out : List Int) (r : Int) (i : Nat) : Prop :=
 ev out 4294967296 * d + r * 4294967296 ^ i + ev (a.take i) 4294967296 = ev a 4294967296
theorem DigInv.step {a out : List Int} {d r : Int} {i : Nat} (h : DigInv a d out r (i + 1)) (hi : i < out.length) (hz : out.getD i 0 = 0) :
  DigInv a d (out.set i ((r * 4294967296 + a.getD i 0) / d)) ((r * 4294967296 + a.getD i 0) % d) i := by
 unfold DigInv at *
 rw [ev_set _ _ _ _ hi, hz]
 rw [ev_take_succ', Int.pow_succ] at h
 have e1 := Int.emod_add_mul_ediv (r * 4294967296 + a.getD i 0) d
 generalize (r * 4294967296 + a.getD i 0) % d = r' at *
 generalize (r * 4294967296 + a.getD i 0) / d = q at *
 generalize (4294967296 : Int) ^ i = P at *
 rw [← h]
 grind
theorem DigInv.start (a : List Int) (d : Int) (n : Nat) : DigInv a d (List.replicate n 0) 0 a.length := by
 unfold DigInv; rw [ev_replicate_zero]; simp
theorem DigInv.last {a out : List Int} {d r : Int} (h : DigInv a d out r 0) : ev out 4294967296 * d + r = ev a 4294967296 := by
 unfold DigInv at h; simpa using h
theorem dig_small {r d x : Int} (hr : 0 ≤ r ∧ r < d) (hx : 0 ≤ x ∧ x < 4294967296) (hd : 0 < d) : 0 ≤ (r * 4294967296 + x) / d ∧ (r * 4294967296 + x) / d < 4294967296 := by
 refine ⟨Int.ediv_nonneg (by omega) (by omega), Int.ediv_lt_of_lt_mul hd ?_⟩
 have : (r + 1) * 4294967296 ≤ d * 4294967296 := Int.mul_le_mul_of_nonneg_right (by omega) (by omega)
 rw [Int.mul_comm 4294967296 d]; omega
/-- limbs: each from 0 to 2^32 - 1 -/
def Lim (xs : List Int) : Prop := ∀ c ∈ xs, 0 ≤ c ∧ c < 4294967296
/-- xs are limbs that stand for n -/
def Is (xs : List Int) (n : Nat) : Prop := Lim xs ∧ ev xs 4294967296 = (n : Int)
theorem Lim.nil : Lim [] := fun c h => by simp at h
theorem Lim.getD {xs : List Int} (h : Lim xs) (i : Nat) : 0 ≤ xs.getD i 0 ∧ xs.getD i 0 < 4294967296 := by
 by_cases hi : i < xs.length
 ·
  rw [List.getD_eq_getElem?_getD, List.getElem?_eq_getElem hi]
  exact h _ (List.getElem_mem hi)
 ·
  rw [getD_none' xs i (by omega)]; omega
theorem Lim.set {xs : List Int} (h : Lim xs) (i : Nat) {v : Int} (h0 : 0 ≤ v) (h1 : v < 4294967296) : Lim (xs.set i v) := by
 intro c hc
 rcases List.mem_or_eq_of_mem_set hc with h' | h'
 ·
  exact h c h'
 ·
  rw [h']; exact ⟨h0, h1⟩
theorem Lim.cons {x : Int} {xs : List Int} (h0 : 0 ≤ x) (h1 : x < 4294967296) (h : Lim xs) : Lim (x :: xs) := by
 intro c hc
 rcases List.mem_cons.1 hc with h' | h'
 ·
  rw [h']; exact ⟨h0, h1⟩
 ·
  exact h c h'
theorem Lim.tail {x : Int} {xs : List Int} (h : Lim (x :: xs)) : Lim xs := fun c hc => h c (by simp [hc])
theorem Lim.head {x : Int} {xs : List Int} (h : Lim (x :: xs)) : 0 ≤ x ∧ x < 4294967296 := h x (by simp)
theorem Lim.append {a b : List Int} (h : Lim a) (k : Lim b) : Lim (a ++ b) := by
 intro c hc
 rcases List.mem_append.1 hc with h' | h'
 ·
  exact h c h'
 ·
  exact k c h'
theorem Lim.zeros (n : Nat) : Lim (List.replicate n 0) := by
 intro c hc
 rw [List.eq_of_mem_replicate hc]; omega
theorem Lim.take {xs : List Int} (h : Lim xs) (n : Nat) : Lim (xs.take n) := fun c hc => h c (List.mem_of_mem_take hc)
theorem Lim.drop {xs : List Int} (h : Lim xs) (n : Nat) : Lim (xs.drop n) := fun c hc => h c (List.mem_of_mem_drop hc)
theorem Lim.nonneg {xs : List Int} (h : Lim xs) : 0 ≤ ev xs 4294967296 := by
 induction xs with
 | nil => simp
 | cons x xs ih => rw [ev_cons]; have := ih h.tail; have := h.head; omega
theorem Lim.lt {xs : List Int} (h : Lim xs) : ev xs 4294967296 < 4294967296 ^ xs.length := by
 induction xs with
 | nil => simp
 | cons x xs ih => rw [ev_cons, List.length_cons, Int.pow_succ]; have := ih h.tail; have := h.head; omega
theorem Lim.is {xs : List Int} (h : Lim xs) : Is xs (ev xs 4294967296).toNat := ⟨h, by have := h.nonneg; omega⟩
theorem Is.nil : Is [] 0 := ⟨Lim.nil, rfl⟩
theorem Is.cons {c : Int} {xs : List Int} {n : Nat} (h0 : 0 ≤ c) (h1 : c < 4294967296) (h : Is xs n) : Is (c :: xs) (c.toNat + 4294967296 * n) :=
 ⟨Lim.cons h0 h1 h.1, by rw [ev_cons, h.2]; omega⟩
/-- the limbs of n, without zeros at the end -/
def enc (n : Nat) : List Int :=
 if n = 0 then [] else ((n % 4294967296 : Nat) : Int) :: enc (n / 4294967296)
termination_by n
decreasing_by omega
theorem enc_zero : enc 0 = [] := by rw [enc]; rfl
theorem enc_pos {n : Nat} (h : n ≠ 0) : enc n = ((n % 4294967296 : Nat) : Int) :: enc (n / 4294967296) := by rw [enc, if_neg h]
theorem enc_is (n : Nat) : Is (enc n) n := by
 induction n using Nat.strongRecOn with
 | ind n ih =>
  by_cases h : n = 0
  ·
   subst h; rw [enc_zero]; exact Is.nil
  ·
   rw [enc_pos h]
   have := Is.cons (c := ((n % 4294967296 : Nat) : Int)) (by omega) (by omega) (ih (n / 4294967296) (by omega))
   have e : ((n % 4294967296 : Nat) : Int).toNat + 4294967296 * (n / 4294967296) = n := by omega
   rwa [e] at this
theorem enc_lim (n : Nat) : Lim (enc n) := (enc_is n).1
theorem enc_ne {n : Nat} (h : n ≠ 0) : enc n ≠ [] := by rw [enc_pos h]; simp
theorem enc_eq_nil {n : Nat} : enc n = [] ↔ n = 0 := ⟨fun h => Classical.byContradiction fun k => enc_ne k h, fun h => by rw [h, enc_zero]⟩
/-- limbs that do not end with 0 are the limbs of their number -/
theorem eq_enc {xs : List Int} : ∀ {n : Nat}, Is xs n → xs.getLast? ≠ some 0 → xs = enc n := by
 induction xs with
 | nil =>
  intro n h _
  have h1 : (0 : Int) = n := h.2
  have : n = 0 := by omega
  rw [this, enc_zero]
 | cons c xs ih =>
  intro n h hl
  have hx := h.1.tail.is
  have hc := h.1.head
  have hn := h.2
  rw [ev_cons, hx.2] at hn
  have e2 : xs.getLast? ≠ some 0 := by
   intro h'
   rcases List.eq_nil_or_concat xs with h1 | ⟨l, x, h1⟩
   ·
    rw [h1] at h'; simp at h'
   ·
    rw [h1] at h' hl
    rw [List.concat_eq_append] at h' hl
    have h4 : ((c :: l) ++ [x]).getLast? = some x := List.getLast?_concat
    have h5 : (l ++ [x]).getLast? = some x := by simp
    rw [← List.cons_append, h4] at hl; rw [h5] at h'
    exact hl h'
  have ih' := ih hx e2
  generalize (ev xs 4294967296).toNat = m at *
  have h3 : n ≠ 0 := by
   intro h0
   have hm : m = 0 := by omega
   rw [hm, enc_zero] at ih'
   rw [ih'] at hl
   have : c = 0 := by omega
   rw [this] at hl; simp at hl
  rw [enc_pos h3, show n % 4294967296 = c.toNat by omega, show n / 4294967296 = m by omega, ← ih']
  have : ((c.toNat : Nat) : Int) = c := by omega
  rw [this]
theorem enc_last (n : Nat) : (enc n).getLast? ≠ some 0 := by
 induction n using Nat.strongRecOn with
 | ind n ih =>
  by_cases h : n = 0
  ·
   rw [h, enc_zero]; simp
  ·
   rw [enc_pos h]
   by_cases h1 : n / 4294967296 = 0
   ·
    rw [h1, enc_zero]; simp; omega
   ·
    have := ih (n / 4294967296) (by omega)
    rw [List.getLast?_cons]
    intro h2
    rcases h3 : (enc (n / 4294967296)).getLast? with _ | z
    ·
     rw [List.getLast?_eq_none_iff] at h3; exact enc_ne h1 h3
    ·
     rw [h3] at h2 this; simp at h2 this; exact this h2
theorem enc_length_le (L : Nat) : ∀ {n : Nat}, n < 4294967296 ^ L → (enc n).length ≤ L := by
  induction L with
  | zero => intro n h; have : n = 0 := by simpa using h
            rw [this, enc_zero]; simp
  | succ L ih =>
    intro n h
    by_cases h0 : n = 0
    · rw [h0, enc_zero]; simp
    · rw [enc_pos h0, List.length_cons]
      have := ih (n := n / 4294967296) (by rw [Nat.pow_succ] at h; exact Nat.div_lt_of_lt_mul (by rw [Nat.mul_comm]; exact h))
      omega
theorem nat_lt_pow {n L : Nat} (h : (n : Int) < 4294967296 ^ L) : n < 4294967296 ^ L := by
 apply Int.ofNat_lt.1
 rw [Int.natCast_pow]
 exact h
theorem two_pow_lt {a L : Nat} (h : a < 32 * L) : 2 ^ a < 4294967296 ^ L := by
 rw [show (4294967296 : Nat) = 2 ^ 32 by rfl, ← Nat.pow_mul]
 exact Nat.pow_lt_pow_right (by omega) h
theorem lt_of_enc_length {L n : Nat} (h : (enc n).length ≤ L) : n < 4294967296 ^ L := by
 have h1 := (enc_lim n).lt
 rw [(enc_is n).2] at h1
 have h2 : n < 4294967296 ^ (enc n).length := nat_lt_pow h1
 exact Nat.lt_of_lt_of_le h2 (Nat.pow_le_pow_right (by omega) h)
theorem Is.lt {xs : List Int} {n : Nat} (h : Is xs n) : n < 4294967296 ^ xs.length := by
 have h1 := h.1.lt
 rw [h.2] at h1
 exact nat_lt_pow h1
theorem Is.enc_length {xs : List Int} {n : Nat} (h : Is xs n) : (enc n).length ≤ xs.length := enc_length_le _ h.lt
theorem ev_drop_zeros (B : Int) (xs : List Int) (m : Nat) (h : ∀ i, m ≤ i → i < xs.length → xs.getD i 0 = 0) : ev (xs.take m) B = ev xs B := by
 have e : xs = xs.take m ++ xs.drop m := (List.take_append_drop m xs).symm
 rw [show ev xs B = ev (xs.take m ++ xs.drop m) B by rw [← e], ev_append, ev_zeros (xs.drop m)]
 ·
  simp
 ·
  intro c hc
  obtain ⟨i, hi, rfl⟩ := List.mem_iff_getElem.1 hc
  rw [List.length_drop] at hi
  have := h (m + i) (by omega) (by omega)
  rw [List.getD_eq_getElem?_getD, List.getElem?_eq_getElem (by omega)] at this
  simpa using this
theorem Is.take {xs : List Int} {n : Nat} (hx : Is xs n) (m : Nat) (h : ∀ i, m ≤ i → i < xs.length → xs.getD i 0 = 0) : Is (xs.take m) n :=
 ⟨hx.1.take m, by rw [ev_drop_zeros _ xs m h, hx.2]⟩
/-- what is left when the zeros at the end are cut off -/
theorem take_eq_enc {xs : List Int} {n : Nat} (hx : Is xs n) (m : Nat) (hm : m ≤ xs.length) (h : ∀ i, m ≤ i → i < xs.length → xs.getD i 0 = 0)
  (h0 : m = 0 ∨ xs.getD (m - 1) 0 ≠ 0) : xs.take m = enc n := by
 refine eq_enc (hx.take m h) ?_
 rcases h0 with h0 | h0
 ·
  rw [h0]; simp
 ·
  intro h1
  rw [List.getLast?_eq_getElem?] at h1
  have hl : (xs.take m).length = m := by rw [List.length_take]; omega
  rw [hl] at h1
  by_cases hz : m = 0
  ·
   rw [hz] at h1; simp at h1
  ·
   rw [List.getElem?_take, if_pos (by omega)] at h1
   exact h0 (by rw [List.getD_eq_getElem?_getD, h1]; rfl)
/-- the top limb -/
theorem enc_top {m : Nat} (h : m ≠ 0) : ∃ top low : Nat, (enc m).getD ((enc m).length - 1) 0 = (top : Int) ∧ 0 < top ∧ top < 4294967296 ∧ low < 2 ^ (32 * ((enc m).length - 1)) ∧ m = low + top * 2 ^ (32 * ((enc m).length - 1)) := by
 have hp : 0 < (enc m).length := List.length_pos_iff.2 (enc_ne h)
 have h1 := ev_take_succ' 4294967296 (enc m) ((enc m).length - 1)
 rw [show (enc m).length - 1 + 1 = (enc m).length by omega, List.take_length, (enc_is m).2] at h1
 have hd := (enc_lim m).getD ((enc m).length - 1)
 have hl := ((enc_lim m).take ((enc m).length - 1)).is
 have hlt := hl.lt
 have hln : ((enc m).take ((enc m).length - 1)).length = (enc m).length - 1 := by rw [List.length_take]; omega
 rw [hln] at hlt
 rw [hl.2] at h1
 have h0 : (enc m).getD ((enc m).length - 1) 0 ≠ 0 := by
  intro h2
  have h3 := enc_last m
  rw [List.getLast?_eq_getElem?] at h3
  rw [List.getD_eq_getElem?_getD, List.getElem?_eq_getElem (by omega)] at h2
  rw [List.getElem?_eq_getElem (by omega)] at h3
  exact h3 (congrArg some h2)
 have hpw : (4294967296 : Nat) ^ ((enc m).length - 1) = 2 ^ (32 * ((enc m).length - 1)) := by rw [Nat.pow_mul]
 rw [hpw] at hlt
 refine ⟨((enc m).getD ((enc m).length - 1) 0).toNat, (ev ((enc m).take ((enc m).length - 1)) 4294967296).toNat, by omega, by omega, by omega, hlt, ?_⟩
 apply Int.ofNat_inj.1
 rw [h1, ← hpw]
 rw [Int.natCast_add, Int.natCast_mul, Int.natCast_pow, Int.toNat_of_nonneg hd.1]
 rfl
theorem lset_self (xs : List Int) (i : Nat) (v : Int) (h : i < xs.length) : (xs.set i v).getD i 0 = v := by
 rw [List.getD_eq_getElem?_getD, List.getElem?_set_self h]; rfl
theorem lset_ne (xs : List Int) (i j : Nat) (v : Int) (h : i ≠ j) : (xs.set i v).getD j 0 = xs.getD j 0 := by
 rw [List.getD_eq_getElem?_getD, List.getElem?_set_ne h, ← List.getD_eq_getElem?_getD]
theorem lzeros_getD (n i : Nat) : (List.replicate n (0 : Int)).getD i 0 = 0 := by
 rw [List.getD_eq_getElem?_getD, List.getElem?_replicate]; split <;> rfl
theorem pow_le_lim {i j : Nat} (h : i ≤ j) : (4294967296 : Int) ^ i ≤ 4294967296 ^ j := by
 have h1 : (4294967296 : Nat) ^ i ≤ 4294967296 ^ j := Nat.pow_le_pow_right (by omega) h
 have h2 := Int.ofNat_le.2 h1
 rw [Int.natCast_pow, Int.natCast_pow] at h2
 exact h2
/-- the limbs from i on are alike -/
def TopEq (xs ys : List Int) (i : Nat) : Prop := ev xs 4294967296 - ev (xs.take i) 4294967296 = ev ys 4294967296 - ev (ys.take i) 4294967296
theorem TopEq.start {xs ys : List Int} {i : Nat} (hx : xs.length ≤ i) (hy : ys.length ≤ i) : TopEq xs ys i := by
 unfold TopEq; rw [List.take_of_length_le hx, List.take_of_length_le hy]; omega
theorem TopEq.step {xs ys : List Int} {i : Nat} (h : TopEq xs ys (i + 1)) (e : xs.getD i 0 = ys.getD i 0) : TopEq xs ys i := by
 unfold TopEq at *
 rw [ev_take_succ', ev_take_succ', e] at h
 generalize ys.getD i 0 * 4294967296 ^ i = t at *
 omega
theorem TopEq.zero {xs ys : List Int} (h : TopEq xs ys 0) : ev xs 4294967296 = ev ys 4294967296 := by
 unfold TopEq at h; simp at h; exact h
theorem TopEq.symm {xs ys : List Int} {i : Nat} (h : TopEq xs ys i) : TopEq ys xs i := Eq.symm h
theorem TopEq.lt {xs ys : List Int} {i : Nat} (h : TopEq xs ys (i + 1)) (hx : Lim xs) (hy : Lim ys) (hl : xs.getD i 0 < ys.getD i 0) : ev xs 4294967296 < ev ys 4294967296 := by
 unfold TopEq at h
 rw [ev_take_succ', ev_take_succ'] at h
 have h1 := (hx.take i).lt
 have h2 := (hy.take i).nonneg
 have h3 : (4294967296 : Int) ^ (xs.take i).length ≤ 4294967296 ^ i := pow_le_lim (by rw [List.length_take]; omega)
 have h4 : 0 ≤ (4294967296 : Int) ^ i := Int.pow_nonneg (by omega)
 have h5 : (xs.getD i 0 + 1) * 4294967296 ^ i ≤ ys.getD i 0 * 4294967296 ^ i := Int.mul_le_mul_of_nonneg_right (by omega) h4
 rw [Int.add_mul, Int.one_mul] at h5
 generalize xs.getD i 0 * 4294967296 ^ i = t at *
 generalize ys.getD i 0 * 4294967296 ^ i = u at *
 generalize (4294967296 : Int) ^ i = P at *
 generalize (4294967296 : Int) ^ (xs.take i).length = P' at *
 omega
/-- -1, 0 or 1 as m is below, at or above n -/
def cmpN (m n : Nat) : Int := if m < n then -1 else if n < m then 1 else 0
theorem cmpN_lt {m n : Nat} (h : m < n) : cmpN m n = -1 := if_pos h
theorem cmpN_gt {m n : Nat} (h : n < m) : cmpN m n = 1 := by unfold cmpN; rw [if_neg (by omega), if_pos h]
theorem cmpN_eq (m : Nat) : cmpN m m = 0 := by unfold cmpN; rw [if_neg (by omega), if_neg (by omega)]
theorem cmpN_neg {m n : Nat} : cmpN m n < 0 ↔ m < n := by unfold cmpN; split <;> (try split) <;> omega
theorem enc_length_mono {m n : Nat} (h : (enc m).length < (enc n).length) : m < n := by
 have h1 : m < 4294967296 ^ (enc m).length := lt_of_enc_length (Nat.le_refl _)
 have h2 : ¬ n < 4294967296 ^ (enc m).length := fun h2 => by have := enc_length_le _ h2; omega
 omega
theorem mul_lim {a b : Int} (ha : 0 ≤ a ∧ a < 4294967296) (hb : 0 ≤ b ∧ b < 4294967296) : 0 ≤ a * b ∧ a * b ≤ 18446744065119617025 := by
 refine ⟨Int.mul_nonneg ha.1 hb.1, ?_⟩
 have h1 : a * b ≤ 4294967295 * b := Int.mul_le_mul_of_nonneg_right (by omega) hb.1
 omega
end Cw
/- Fractions by their values: the canonical form, and how large its numbers are. -/
namespace Cw
/-- a sign, a numerator and a denominator stand for a number; 0 if the denominator is 0 -/
def rv (neg : Bool) (num den : Nat) : Rat := mkRat (if neg then -(num : Int) else (num : Int)) den
/-- the canonical form of a number -/
def rneg (r : Rat) : Bool := decide (r.num < 0)
def rnum (r : Rat) : Nat := r.num.natAbs
theorem rv_zero_num (neg : Bool) (den : Nat) : rv neg 0 den = 0 := by
 unfold rv
 cases neg <;> simp
theorem rv_zero_den (neg : Bool) (num : Nat) : rv neg num 0 = 0 := by
 unfold rv; simp
theorem rv_self (r : Rat) : rv (rneg r) (rnum r) r.den = r := by
 unfold rv rneg rnum
 have h : (if decide (r.num < 0) = true then -((r.num.natAbs : Nat) : Int) else ((r.num.natAbs : Nat) : Int)) = r.num := by
  by_cases h : r.num < 0
  ·
   rw [if_pos (by simpa using h)]; omega
  ·
   rw [if_neg (by simpa using h)]; omega
 rw [h, Rat.mkRat_self]
theorem sg_natAbs (neg : Bool) (n : Nat) : (if neg then -(n : Int) else (n : Int)).natAbs = n := by cases neg <;> simp
theorem rv_num {neg : Bool} {num den : Nat} (hd : den ≠ 0) : (rv neg num den).num = if neg then -((num / Nat.gcd num den : Nat) : Int) else ((num / Nat.gcd num den : Nat) : Int) := by
 unfold rv
 rw [Rat.mkRat_def, dif_neg hd, Rat.normalize_eq]
 simp only [sg_natAbs]
 cases neg
 ·
  simp
 ·
  simp only [if_true]
  rw [Int.neg_ediv_of_dvd (Int.ofNat_dvd.2 (Nat.gcd_dvd_left num den))]
  simp
theorem rv_den {neg : Bool} {num den : Nat} (hd : den ≠ 0) : (rv neg num den).den = den / Nat.gcd num den := by
 unfold rv
 rw [Rat.mkRat_def, dif_neg hd, Rat.normalize_eq]
 simp only [sg_natAbs]
theorem rv_rnum {neg : Bool} {num den : Nat} (hd : den ≠ 0) : rnum (rv neg num den) = num / Nat.gcd num den := by
 unfold rnum; rw [rv_num hd, sg_natAbs]
theorem rv_rneg {neg : Bool} {num den : Nat} (hn : num ≠ 0) (hd : den ≠ 0) : rneg (rv neg num den) = neg := by
 unfold rneg
 rw [rv_num hd]
 have : 0 < num / Nat.gcd num den := Nat.div_pos (Nat.le_of_dvd (by omega) (Nat.gcd_dvd_left ..)) (Nat.gcd_pos_of_pos_left _ (by omega))
 generalize num / Nat.gcd num den = x at *
 cases neg
 ·
  simp
 ·
  simp; omega
theorem rneg_zero : rneg 0 = false := rfl
theorem rnum_zero : rnum 0 = 0 := rfl
theorem rden_zero : (0 : Rat).den = 1 := rfl
theorem rnum_eq_zero {r : Rat} : rnum r = 0 ↔ r = 0 := by
 unfold rnum
 rw [Int.natAbs_eq_zero, Rat.num_eq_zero]
theorem rv_neg (neg : Bool) (num den : Nat) : rv (!neg) num den = -rv neg num den := by
 unfold rv
 rw [Rat.neg_mkRat]
 cases neg <;> simp
theorem rv_mul (s t : Bool) (a b c d : Nat) : rv s a b * rv t c d = rv (s != t) (a * c) (b * d) := by
 unfold rv
 rw [Rat.mkRat_mul_mkRat]
 congr 1
 cases s <;> cases t <;> simp [Int.mul_neg, Int.neg_mul]
/-- both of one sign -/
theorem rv_add (s : Bool) {a b c d : Nat} (hb : b ≠ 0) (hd : d ≠ 0) : rv s a b + rv s c d = rv s (a * d + c * b) (b * d) := by
 unfold rv
 rw [Rat.mkRat_add_mkRat _ _ hb hd]
 congr 1
 cases s
 ·
  simp
 ·
  simp only [if_true, Int.natCast_add, Int.natCast_mul]; grind
/-- of two signs, the first one greater -/
theorem rv_sub (s : Bool) {a b c d : Nat} (hb : b ≠ 0) (hd : d ≠ 0) (h : c * b ≤ a * d) : rv s a b + rv (!s) c d = rv s (a * d - c * b) (b * d) := by
 unfold rv
 rw [Rat.mkRat_add_mkRat _ _ hb hd]
 congr 1
 rw [Int.ofNat_sub h]
 cases s
 ·
  simp only [Bool.not_false, if_true, Bool.false_eq_true, if_false, Int.natCast_mul]; grind
 ·
  simp only [Bool.not_true, Bool.false_eq_true, if_true, if_false, Int.natCast_mul]; grind
/-- the numbers of a fraction have at most s binary digits -/
def Sz (r : Rat) (s : Nat) : Prop := rnum r < 2 ^ s ∧ r.den < 2 ^ s
theorem Sz.mono {r : Rat} {s t : Nat} (h : Sz r s) (hst : s ≤ t) : Sz r t :=
 ⟨Nat.lt_of_lt_of_le h.1 (Nat.pow_le_pow_right (by omega) hst), Nat.lt_of_lt_of_le h.2 (Nat.pow_le_pow_right (by omega) hst)⟩
theorem Sz.zero : Sz 0 1 := by unfold Sz; rw [rnum_zero, rden_zero]; decide
theorem Sz.one : Sz 1 1 := by unfold Sz; decide
theorem Sz.neg {r : Rat} {s : Nat} (h : Sz r s) : Sz (-r) s := by
 unfold Sz rnum at *
 rw [Rat.neg_num, Int.natAbs_neg, Rat.neg_den]; exact h
theorem sz_mkRat {n : Int} {d s : Nat} (hd : d ≠ 0) (hn : n.natAbs < 2 ^ s) (hds : d < 2 ^ s) : Sz (mkRat n d) s := by
 unfold Sz rnum
 rw [Rat.mkRat_def, dif_neg hd, Rat.normalize_eq]
 refine ⟨Nat.lt_of_le_of_lt ?_ hn, Nat.lt_of_le_of_lt (Nat.div_le_self _ _) hds⟩
 show (n / ((n.natAbs.gcd d : Nat) : Int)).natAbs ≤ n.natAbs
 exact Int.natAbs_ediv_le_natAbs _ _
theorem Sz.add {a b : Rat} {s t : Nat} (ha : Sz a s) (hb : Sz b t) : Sz (a + b) (s + t + 1) := by
 have d1 := a.den_nz
 have d2 := b.den_nz
 rw [Rat.add_def']
 refine sz_mkRat (Nat.mul_ne_zero d1 d2) ?_ ?_
 ·
  have h1 : (a.num * (b.den : Int)).natAbs < 2 ^ s * 2 ^ t := by
   rw [Int.natAbs_mul, Int.natAbs_natCast]; exact Nat.mul_lt_mul'' ha.1 hb.2
  have h2 : (b.num * (a.den : Int)).natAbs < 2 ^ s * 2 ^ t := by
   rw [Int.natAbs_mul, Int.natAbs_natCast, Nat.mul_comm (2 ^ s)]; exact Nat.mul_lt_mul'' hb.1 ha.2
  have h3 := Int.natAbs_add_le (a.num * (b.den : Int)) (b.num * (a.den : Int))
  rw [Nat.pow_succ, Nat.pow_add]; omega
 ·
  have h1 : a.den * b.den < 2 ^ s * 2 ^ t := Nat.mul_lt_mul'' ha.2 hb.2
  rw [Nat.pow_succ, Nat.pow_add]; omega
theorem Sz.mul {a b : Rat} {s t : Nat} (ha : Sz a s) (hb : Sz b t) : Sz (a * b) (s + t) := by
 have d1 := a.den_nz
 have d2 := b.den_nz
 rw [Rat.mul_def']
 refine sz_mkRat (Nat.mul_ne_zero d1 d2) ?_ ?_
 ·
  rw [Int.natAbs_mul, Nat.pow_add]; exact Nat.mul_lt_mul'' ha.1 hb.1
 ·
  rw [Nat.pow_add]; exact Nat.mul_lt_mul'' ha.2 hb.2
theorem sz_rv {neg : Bool} {num den s : Nat} (hn : num < 2 ^ s) (hd : den < 2 ^ s) : Sz (rv neg num den) (s + 1) := by
 by_cases h : den = 0
 ·
  rw [h, rv_zero_den]; exact Sz.zero.mono (by omega)
 ·
  exact (sz_mkRat h (by rw [sg_natAbs]; exact hn) hd).mono (by omega)
theorem Sz.len {r : Rat} {s L : Nat} (h : Sz r s) (hs : s ≤ 32 * L) : (enc (rnum r)).length ≤ L ∧ (enc r.den).length ≤ L := by
 have hp : 2 ^ s ≤ 4294967296 ^ L := by
  rw [show (4294967296 : Nat) = 2 ^ 32 by rfl, ← Nat.pow_mul]
  exact Nat.pow_le_pow_right (by omega) hs
 exact ⟨enc_length_le _ (Nat.lt_of_lt_of_le h.1 hp), enc_length_le _ (Nat.lt_of_lt_of_le h.2 hp)⟩
/-- -1, 0 or 1 -/
def rsign (r : Rat) : Int := if r.num = 0 then 0 else if r.num < 0 then -1 else 1
end Cw
/- Numbers and fractions as data: what reads as what; rows of rows of cells. -/
namespace Ab
open Go Go.RowKit Cw
set_option linter.unusedVariables false
/-- what reads as x reads as y -/
def Le (x y : D) : Prop := ∀ (w : World) (ok : Nat → Prop) (v : Value), RD w ok x v → RD w ok y v
theorem Le.refl (x : D) : Le x x := fun _ _ _ h => h
theorem Le.trans {x y z : D} (h : Le x y) (k : Le y z) : Le x z := fun w ok v r => k w ok v (h w ok v r)
theorem Le.nil (n : Nat) (h : n = 0) : Le .nils (.sl n []) := fun w ok v r => by
 subst h
 cases r
 exact .sl 0 [] none 0 (fun _ => undef) (Nat.le_refl _) (fun h => absurd rfl h) (fun p x hp => by simp at hp)
/-- lists of data, one by one -/
def Les (xs ys : List D) : Prop := xs.length = ys.length ∧ ∀ (i : Nat) (x y : D), xs[i]? = some x → ys[i]? = some y → Le x y
theorem Les.get {xs ys : List D} (h : Les xs ys) {i : Nat} {y : D} (hy : ys[i]? = some y) : ∃ x, xs[i]? = some x ∧ Le x y := by
 have hi := (List.getElem?_eq_some_iff.1 hy).1
 have : i < xs.length := by rw [h.1]; exact hi
 exact ⟨xs[i], List.getElem?_eq_getElem this, h.2 i _ _ (List.getElem?_eq_getElem this) hy⟩
theorem Les.nil : Les [] [] := ⟨rfl, fun i x y h => by simp at h⟩
theorem Les.cons {x y : D} {xs ys : List D} (h : Le x y) (k : Les xs ys) : Les (x :: xs) (y :: ys) := ⟨by simp [k.1], fun i a b ha hb => by
 cases i with
 | zero => simp at ha hb; subst ha hb; exact h
 | succ i => simp at ha hb; exact k.2 i a b ha hb⟩
theorem Les.refl (xs : List D) : Les xs xs := ⟨rfl, fun i x y h1 h2 => by rw [h1] at h2; injection h2 with h2; subst h2; exact Le.refl _⟩
theorem Le.agg {xs ys : List D} (h : Les xs ys) (h1 : ys.all D.one = true) : Le (.agg xs) (.agg ys) := fun w ok v r => by
 cases r with
 | agg _ vs u hs hv hr ho => exact .agg ys vs u (by rw [hs, h.1]) (by rw [← h.1]; exact hv) (fun i y hy => by obtain ⟨x, h2, h3⟩ := h.get hy; exact h3 _ _ _ (hr i x h2)) (by simpa using h1)
theorem Le.sl {xs ys : List D} (n : Nat) (h : Les xs ys) : Le (.sl n xs) (.sl n ys) := fun w ok v r => by
 cases r with
 | sl _ _ A c u hn ha hr =>
  refine .sl n ys A c u hn (fun hne => ?_) (fun i y hy => by obtain ⟨x, h2, h3⟩ := h.get hy; exact h3 _ _ _ (hr i x h2))
  have : xs ≠ [] := fun e => hne (by have := h.1; rw [e] at this; simpa using this.symm)
  rw [← h.1]; exact ha this
theorem Le.tup {xs ys : List D} (h : Les xs ys) : Le (.tup xs) (.tup ys) := fun w ok v r => by
 cases r with
 | tup _ vs u hs hv hr => exact .tup ys vs u (by rw [hs, h.1]) (by rw [← h.1]; exact hv) (fun i y hy => by obtain ⟨x, h2, h3⟩ := h.get hy; exact h3 _ _ _ (hr i x h2))
theorem Spec.wk {P : Program} {f : FuncId} {args args' : List D} {r : D} (h : Ab.Spec P f args r) (k : Les args' args) : Ab.Spec P f args' r :=
 ⟨h.1, fun w vs ok hs ha hok => h.2 w vs ok (by rw [hs, k.1]) (fun i x hx => by
  obtain ⟨y, h2, h3⟩ := k.get hx
  obtain ⟨v, h4, h5⟩ := ha i y h2
  exact ⟨v, h4, h3 _ _ _ h5⟩) hok⟩
theorem Spec.res {P : Program} {f : FuncId} {args : List D} {r r' : D} (h : Ab.Spec P f args r) (k : Le r r') : Ab.Spec P f args r' :=
 ⟨h.1, fun w vs ok hs ha hok => (h.2 w vs ok hs ha hok).mono fun e w' ⟨h1, v, h2, h3⟩ => ⟨h1, v, h2, k _ _ _ h3⟩⟩
/-- a list of limbs -/
def nat32 (l : List Int) : D := .sl l.length (l.map (.int .u32))
/-- y reads as limbs, at most L of them, that stand for m -/
def Nt (y : D) (m : Nat) (L : Nat) : Prop := ∃ a, (y = nat32 a ∨ (y = .nils ∧ a = [])) ∧ Is a m ∧ a.length ≤ L
theorem Nt.one {y : D} {m L : Nat} (h : Nt y m L) : y.one = true := by
 obtain ⟨a, h | h, _⟩ := h
 ·
  rw [h]; rfl
 ·
  rw [h.1]; rfl
theorem Nt.cells {y : D} {m L : Nat} (h : Nt y m L) : y.cells = [y] := by
 obtain ⟨a, h | h, _⟩ := h
 ·
  rw [h]; rfl
 ·
  rw [h.1]; rfl
theorem Nt.le {y : D} {m L : Nat} (h : Nt y m L) : ∃ a, Le y (nat32 a) ∧ Is a m ∧ a.length ≤ L := by
 obtain ⟨a, h | h, h1, h2⟩ := h
 ·
  exact ⟨a, h ▸ Le.refl _, h1, h2⟩
 ·
  obtain ⟨rfl, rfl⟩ := h
  exact ⟨[], Le.nil _ rfl, h1, h2⟩
theorem Nt.mono {y : D} {m L L' : Nat} (h : Nt y m L) (hL : L ≤ L') : Nt y m L' := by
 obtain ⟨a, h, h1, h2⟩ := h
 exact ⟨a, h, h1, by omega⟩
theorem Nt.enc {m L : Nat} (h : (enc m).length ≤ L) : Nt (nat32 (enc m)) m L := ⟨_, .inl rfl, enc_is m, h⟩
theorem Nt.mk {a : List Int} {m L : Nat} (h : Is a m) (hl : a.length ≤ L) : Nt (nat32 a) m L := ⟨_, .inl rfl, h, hl⟩
theorem Nt.nil (L : Nat) : Nt .nils 0 L := ⟨[], .inr ⟨rfl, rfl⟩, Is.nil, by simp⟩
/-- a fraction: sign, numerator, denominator -/
def frac (s : Bool) (y z : D) : D := .agg [.bool s, y, z]
def Fr (x : D) (r : Rat) (L : Nat) : Prop := ∃ s y z m n, x = frac s y z ∧ Nt y m L ∧ Nt z n L ∧ r = rv s m n
/-- the canonical fraction -/
def rqC (r : Rat) : List D := [.bool (rneg r), nat32 (Cw.enc (rnum r)), nat32 (Cw.enc r.den)]
def rq (r : Rat) : D := .agg (rqC r)
theorem Fr.rq {r : Rat} {s L : Nat} (h : Sz r s) (hs : s ≤ 32 * L) : Fr (rq r) r L := by
 obtain ⟨h1, h2⟩ := h.len hs
 exact ⟨rneg r, _, _, rnum r, r.den, rfl, Nt.enc h1, Nt.enc h2, (rv_self r).symm⟩
theorem Fr.mono {x : D} {r : Rat} {L L' : Nat} (h : Fr x r L) (hL : L ≤ L') : Fr x r L' := by
 obtain ⟨s, y, z, m, n, h1, h2, h3, h4⟩ := h
 exact ⟨s, y, z, m, n, h1, h2.mono hL, h3.mono hL, h4⟩
theorem Is.lt2 {a : List Int} {m L : Nat} (h : Is a m) (hl : a.length ≤ L) : m < 2 ^ (32 * L) := by
 refine Nat.lt_of_lt_of_le h.lt ?_
 rw [Nat.pow_mul, show (2 : Nat) ^ 32 = 4294967296 by rfl]
 exact Nat.pow_le_pow_right (by omega) hl
theorem Nt.lt {y : D} {m L : Nat} (h : Nt y m L) : m < 2 ^ (32 * L) := by
 obtain ⟨a, _, h1, h2⟩ := h
 exact Is.lt2 h1 h2
theorem Fr.sz {x : D} {r : Rat} {L : Nat} (h : Fr x r L) : Sz r (32 * L + 1) := by
 obtain ⟨s, y, z, m, n, h1, h2, h3, h4⟩ := h
 rw [h4]; exact sz_rv h2.lt h3.lt
/-! ### rows of cells -/
theorem flat_len {α : Type} {z : Nat} : ∀ (rows : List (List α)), (∀ c ∈ rows, c.length = z) → rows.flatten.length = rows.length * z
 | [], _ => by simp
 | c :: rows, h => by
  rw [List.flatten_cons, List.length_append, h c (by simp), flat_len rows (fun c hc => h c (by simp [hc])), List.length_cons, Nat.succ_mul, Nat.add_comm]
theorem flat_at {α : Type} {z : Nat} : ∀ (rows : List (List α)) (i : Nat) (c : List α), (∀ c ∈ rows, c.length = z) → rows[i]? = some c → (rows.flatten.drop (i * z)).take z = c
 | [], i, c, _, h => by simp at h
 | r :: rows, 0, c, h, hc => by
  simp at hc; subst hc
  have := h r (by simp)
  rw [Nat.zero_mul, List.drop_zero, List.flatten_cons, List.take_append_of_le_length (by omega), ← this, List.take_length]
 | r :: rows, i + 1, c, h, hc => by
  have h1 := h r (by simp)
  rw [List.flatten_cons, Nat.succ_mul, Nat.add_comm, ← h1, List.drop_append, h1]
  rw [List.drop_eq_nil_of_le (by omega), List.nil_append, show z + i * z - z = i * z by omega]
  exact flat_at rows i c (fun c hc => h c (by simp [hc])) (by simpa using hc)
theorem flat_set3 {α : Type} (a b c : α) : ∀ (rows : List (List α)) (i : Nat), (∀ r ∈ rows, r.length = 3) → (((rows.flatten.set (i * 3) a).set (i * 3 + 1) b).set (i * 3 + 1 + 1) c) = (rows.set i [a, b, c]).flatten
 | [], i, _ => by simp
 | r :: rows, 0, h => by
  have h1 := h r (by simp)
  match r, h1 with
  | [x, y, z], _ => simp
 | r :: rows, i + 1, h => by
  have h1 := h r (by simp)
  match r, h1 with
  | [x, y, z], _ =>
   have := flat_set3 a b c rows i (fun r hr => h r (by simp [hr]))
   rw [show (i + 1) * 3 = i * 3 + 3 by omega]
   simp only [List.flatten_cons, List.cons_append, List.nil_append, List.set_cons_succ]
   rw [this]
theorem flat_take {α : Type} {z : Nat} : ∀ (rows : List (List α)) (n : Nat), (∀ c ∈ rows, c.length = z) → rows.flatten.take (n * z) = (rows.take n).flatten
 | [], n, _ => by simp
 | r :: rows, 0, _ => by simp
 | r :: rows, n + 1, h => by
  have h1 := h r (by simp)
  rw [List.take_succ_cons, List.flatten_cons, List.flatten_cons, ← flat_take rows n (fun c hc => h c (by simp [hc])), List.take_append, h1, Nat.succ_mul, List.take_of_length_le (by omega), show n * z + z - z = n * z by omega]
theorem flat_all {α : Type} {p : α → Bool} {rows : List (List α)} (h : ∀ c ∈ rows, c.all p = true) : rows.flatten.all p = true := by
 simp only [List.all_eq_true, List.mem_flatten] at *
 rintro x ⟨c, h1, h2⟩
 exact h c h1 x h2
end Ab
/- From some number of rounds on: how the answers of printed functions are put together. -/
namespace Cw
/-- from some number of rounds on, g answers r -/
def Evt {α : Type} (g : Nat → Option α) (r : α) : Prop := ∃ K, ∀ k, K ≤ k → g k = some r
theorem Evt.now {α : Type} (r : α) : Evt (fun _ => some r) r := ⟨0, fun _ _ => rfl⟩
theorem Evt.now' {α : Type} {r r' : α} (h : r' = r) : Evt (fun _ => some r') r := h ▸ Evt.now r'
theorem Evt.rounds {α : Type} {g : Nat → Option α} {r : α} (h : Evt g r) : ∃ k, g k = some r := by
 obtain ⟨K, h⟩ := h
 exact ⟨K, h K (Nat.le_refl _)⟩
theorem Evt.bind {α β : Type} {g : Nat → Option α} {f : Nat → α → Option β} {a : α} {r : β} (h : Evt g a) (k : Evt (fun n => f n a) r) : Evt (fun n => (g n).bind (f n)) r := by
 obtain ⟨K, h⟩ := h
 obtain ⟨K', k⟩ := k
 refine ⟨max K K', fun n hn => ?_⟩
 have h1 := h n (by omega)
 have h2 := k n (by omega)
 simp only [h1, Option.bind_some]
 exact h2
theorem Evt.step {α : Type} {g f : Nat → Option α} {r : α} (h : ∀ k, g (k + 1) = f k) (k : Evt f r) : Evt g r := by
 obtain ⟨K, k⟩ := k
 refine ⟨K + 1, fun n hn => ?_⟩
 obtain ⟨m, rfl⟩ : ∃ m, n = m + 1 := ⟨n - 1, by omega⟩
 rw [h]
 exact k m (by omega)
theorem Evt.congr {α : Type} {g f : Nat → Option α} {r : α} (h : ∀ k, g k = f k) (k : Evt f r) : Evt g r := by
 obtain ⟨K, k⟩ := k
 exact ⟨K, fun n hn => (h n).trans (k n hn)⟩
theorem Evt.pos {α : Type} {c : Prop} [Decidable c] {A B : Nat → Option α} {r : α} (h : c) (H : Evt A r) : Evt (fun k => if c then A k else B k) r :=
 Evt.congr (fun _ => if_pos h) H
theorem Evt.neg {α : Type} {c : Prop} [Decidable c] {A B : Nat → Option α} {r : α} (h : ¬ c) (H : Evt B r) : Evt (fun k => if c then A k else B k) r :=
 Evt.congr (fun _ => if_neg h) H
theorem Evt.fixed {α : Type} {o : Option α} {r : α} (h : o = some r) : Evt (fun _ => o) r := ⟨0, fun _ _ => h⟩
theorem Evt.bind0 {α β : Type} {o : Option α} {f : Nat → α → Option β} {a : α} {r : β} (h : o = some a) (k : Evt (fun n => f n a) r) : Evt (fun n => o.bind (f n)) r :=
 Evt.bind (Evt.fixed h) k
end Cw
/- Binomial coefficients and the lengths of binary numbers. -/
namespace Cw
/-- the number of subsets with k elements of a set with n elements -/
def binom : Nat → Nat → Nat
 | _, 0 => 1
 | 0, _ + 1 => 0
 | n + 1, k + 1 => binom n k + binom n (k + 1)
@[simp] theorem binom_zero (n : Nat) : binom n 0 = 1 := by cases n <;> rfl
/-- the number of binary digits -/
def blen (n : Nat) : Nat := if n = 0 then 0 else Nat.log2 n + 1
theorem blen_zero : blen 0 = 0 := rfl
theorem blen_lt (n : Nat) : n < 2 ^ blen n := by
 unfold blen; split
 ·
  rename_i h; simp [h]
 ·
  exact Nat.lt_log2_self
theorem blen_le {n : Nat} (h : n ≠ 0) : 2 ^ (blen n - 1) ≤ n := by
 unfold blen; rw [if_neg h, Nat.add_sub_cancel]; exact Nat.log2_self_le h
theorem blen_pos {n : Nat} (h : n ≠ 0) : 0 < blen n := by unfold blen; rw [if_neg h]; omega
theorem blen_unique {n b : Nat} (h1 : 2 ^ b ≤ n) (h2 : n < 2 ^ (b + 1)) : blen n = b + 1 := by
 have hn : n ≠ 0 := by have := Nat.two_pow_pos b; omega
 have h3 := blen_le hn
 have h4 := blen_lt n
 have h5 := blen_pos hn
 have a1 : blen n - 1 < b + 1 := (Nat.pow_lt_pow_iff_right (by omega : 1 < 2)).1 (Nat.lt_of_le_of_lt h3 h2)
 have a2 : b < blen n := (Nat.pow_lt_pow_iff_right (by omega : 1 < 2)).1 (Nat.lt_of_le_of_lt h1 h4)
 omega
theorem blen_shift {lo hi s : Nat} (h : lo < 2 ^ s) (hh : hi ≠ 0) : blen (lo + hi * 2 ^ s) = s + blen hi := by
 have h1 := blen_le hh
 have h2 := blen_lt hi
 have h3 := blen_pos hh
 obtain ⟨b, hb⟩ : ∃ b, blen hi = b + 1 := ⟨blen hi - 1, by omega⟩
 rw [hb] at h1 h2
 rw [Nat.add_sub_cancel] at h1
 have h4 : hi * 2 ^ s + 2 ^ s ≤ 2 ^ (b + 1) * 2 ^ s := by rw [← Nat.succ_mul]; exact Nat.mul_le_mul_right _ h2
 have h5 : 2 ^ b * 2 ^ s ≤ hi * 2 ^ s := Nat.mul_le_mul_right _ h1
 rw [← Nat.pow_add] at h4 h5
 rw [blen_unique (b := b + s) (by omega) (by rw [show b + s + 1 = b + 1 + s by omega]; omega), hb]
 omega
theorem blen_half {n : Nat} (h : n ≠ 0) : blen n = blen (n / 2) + 1 := by
 by_cases h2 : n / 2 = 0
 ·
  have : n = 1 := by omega
  subst this; rfl
 ·
  have := blen_shift (lo := n % 2) (hi := n / 2) (s := 1) (by omega) h2
  rw [show n % 2 + n / 2 * 2 ^ 1 = n by omega] at this
  omega
theorem blen_le_32 {n : Nat} (h : n < 4294967296) : blen n ≤ 32 := by
 by_cases h0 : n = 0
 ·
  rw [h0, blen_zero]; omega
 ·
  have h1 := blen_le h0
  have h2 : 2 ^ (blen n - 1) < 2 ^ 32 := by omega
  have := (Nat.pow_lt_pow_iff_right (by omega : 1 < 2)).1 h2
  omega
end Cw
/- Subtracting a multiple and adding back, limb by limb. -/
namespace Cw
/-- the L lowest limbs of n -/
def lims : Nat → Nat → List Int
 | 0, _ => []
 | L + 1, n => ((n % 4294967296 : Nat) : Int) :: lims L (n / 4294967296)
theorem lims_length (L n : Nat) : (lims L n).length = L := by
 induction L generalizing n with
 | zero => rfl
 | succ L ih => simp [lims, ih]
theorem lims_lim (L n : Nat) : Lim (lims L n) := by
 induction L generalizing n with
 | zero => exact Lim.nil
 | succ L ih => exact Lim.cons (by omega) (by omega) (ih _)
theorem eq_lims {xs : List Int} : ∀ {n : Nat}, Is xs n → xs = lims xs.length n := by
 induction xs with
 | nil => intro n _; rfl
 | cons c xs ih =>
  intro n h
  have hx := h.1.tail.is
  have hc := h.1.head
  have hn := h.2
  rw [ev_cons, hx.2] at hn
  have ih' := ih hx
  generalize (ev xs 4294967296).toNat = m at *
  rw [List.length_cons, lims, show n / 4294967296 = m by omega, ← ih', show n % 4294967296 = c.toNat by omega]
  have : ((c.toNat : Nat) : Int) = c := by omega
  rw [this]
theorem lims_is {L n : Nat} (h : n < 4294967296 ^ L) : Is (lims L n) n := by
  induction L generalizing n with
  | zero => have : n = 0 := by simpa using h
            rw [this]; exact Is.nil
  | succ L ih =>
    have h1 : n / 4294967296 < 4294967296 ^ L := by
      rw [Nat.pow_succ] at h; exact Nat.div_lt_of_lt_mul (by rw [Nat.mul_comm]; exact h)
    have := Is.cons (c := ((n % 4294967296 : Nat) : Int)) (by omega) (by omega) (ih h1)
    have e : ((n % 4294967296 : Nat) : Int).toNat + 4294967296 * (n / 4294967296) = n := by omega
    rwa [e] at this
/-- e times i limbs of v are subtracted; c is carried, b is borrowed -/
def SubInv (u v w : List Int) (e c b : Int) (i : Nat) : Prop :=
 ev w 4294967296 = ev u 4294967296 - e * ev (v.take i) 4294967296 + (c + b) * 4294967296 ^ i ∧ ∀ j, i ≤ j → w.getD j 0 = u.getD j 0
theorem SubInv.start (u v : List Int) (e : Int) : SubInv u v u e 0 0 0 := ⟨by simp, fun _ _ => rfl⟩
theorem SubInv.step {u v w : List Int} {e c b d b' : Int} {i : Nat} (h : SubInv u v w e c b i) (hi : i < w.length)
  (hd : d = u.getD i 0 - (e * v.getD i 0 + c) % 4294967296 - b + b' * 4294967296) :
  SubInv u v (w.set i d) e ((e * v.getD i 0 + c) / 4294967296) b' (i + 1) := by
 obtain ⟨h1, h2⟩ := h
 refine ⟨?_, fun j hj => by rw [lset_ne _ _ _ _ (by omega)]; exact h2 j (by omega)⟩
 rw [ev_set _ _ _ _ hi, h2 i (Nat.le_refl _), h1, ev_take_succ', Int.pow_succ, hd]
 have e1 := Int.emod_add_mul_ediv (e * v.getD i 0 + c) 4294967296
 generalize (e * v.getD i 0 + c) % 4294967296 = r at *
 generalize (e * v.getD i 0 + c) / 4294967296 = q at *
 generalize (4294967296 : Int) ^ i = P at *
 have e2 : r = e * v.getD i 0 + c - 4294967296 * q := by omega
 rw [e2]
 generalize ev (v.take i) 4294967296 = F at *
 generalize v.getD i 0 = x at *
 generalize u.getD i 0 = y at *
 clear hd h1 h2 e1 e2
 grind
theorem SubInv.last {u v w : List Int} {e c b d t : Int} {K : Nat} (h : SubInv u v w e c b K) (hv : v.length = K) (hi : K < w.length)
  (hd : d = u.getD K 0 - c - b + t * 4294967296) : ev (w.set K d) 4294967296 = ev u 4294967296 - e * ev v 4294967296 + t * 4294967296 ^ (K + 1) := by
 obtain ⟨h1, h2⟩ := h
 rw [ev_set _ _ _ _ hi, h2 K (Nat.le_refl _), h1, List.take_of_length_le (by omega), hd, Int.pow_succ]
 generalize (4294967296 : Int) ^ K = P at *
 generalize u.getD K 0 = y at *
 clear hd h1 h2
 grind
/-- i limbs of v are added to w0 -/
def AddInv (w0 v w : List Int) (c : Int) (i : Nat) : Prop :=
 ev w 4294967296 + c * 4294967296 ^ i = ev w0 4294967296 + ev (v.take i) 4294967296 ∧ ∀ j, i ≤ j → w.getD j 0 = w0.getD j 0
theorem AddInv.start (w0 v : List Int) : AddInv w0 v w0 0 0 := ⟨by simp, fun _ _ => rfl⟩
theorem AddInv.step {w0 v w : List Int} {c : Int} {i : Nat} (h : AddInv w0 v w c i) (hi : i < w.length) :
  AddInv w0 v (w.set i ((w0.getD i 0 + v.getD i 0 + c) % 4294967296)) ((w0.getD i 0 + v.getD i 0 + c) / 4294967296) (i + 1) := by
 obtain ⟨h1, h2⟩ := h
 refine ⟨?_, fun j hj => by rw [lset_ne _ _ _ _ (by omega)]; exact h2 j (by omega)⟩
 rw [ev_set _ _ _ _ hi, h2 i (Nat.le_refl _), ev_take_succ', Int.pow_succ]
 have e1 := Int.emod_add_mul_ediv (w0.getD i 0 + v.getD i 0 + c) 4294967296
 generalize (w0.getD i 0 + v.getD i 0 + c) % 4294967296 = r at *
 generalize (w0.getD i 0 + v.getD i 0 + c) / 4294967296 = q at *
 generalize (4294967296 : Int) ^ i = P at *
 have e2 : r = w0.getD i 0 + v.getD i 0 + c - 4294967296 * q := by omega
 rw [e2]
 generalize ev w 4294967296 = E at *
 generalize ev (v.take i) 4294967296 = F at *
 generalize ev w0 4294967296 = G at *
 clear h2 e1 e2
 grind
theorem AddInv.last {w0 v w : List Int} {c d t : Int} {K : Nat} (h : AddInv w0 v w c K) (hv : v.length = K) (hi : K < w.length)
  (hd : d = w0.getD K 0 + c - t * 4294967296) : ev (w.set K d) 4294967296 = ev w0 4294967296 + ev v 4294967296 - t * 4294967296 ^ (K + 1) := by
 obtain ⟨h1, h2⟩ := h
 rw [List.take_of_length_le (by omega)] at h1
 rw [ev_set _ _ _ _ hi, h2 K (Nat.le_refl _), hd, Int.pow_succ]
 generalize (4294967296 : Int) ^ K = P at *
 generalize ev w 4294967296 = E at *
 generalize w0.getD K 0 = y at *
 clear hd h2
 grind
/-- no borrow is left: e is the quotient -/
theorem fin0 {U V q R e D : Int} (hU : U = q * V + R) (hR : R < V) (hD : D = U - e * V) (h0 : 0 ≤ D) (he : e = q ∨ e = q + 1) : e = q ∧ D = R := by
 rcases he with h | h
 ·
  subst h; exact ⟨rfl, by omega⟩
 ·
  exfalso; subst h; rw [Int.add_mul, Int.one_mul] at hD; omega
/-- a borrow is left: e is one too big -/
theorem fin1 {U V q R e D P : Int} (hU : U = q * V + R) (hR : 0 ≤ R) (hD : D = U - e * V + P) (h1 : D < P) (he : e = q ∨ e = q + 1) : e = q + 1 ∧ D + V = R + P := by
 rcases he with h | h
 ·
  exfalso; subst h; omega
 ·
  subst h; rw [Int.add_mul, Int.one_mul] at hD; exact ⟨rfl, by omega⟩
theorem fin2 {W R P S t : Int} (hW : W = S - t * P) (hS : S = R + P) (h0 : 0 ≤ W) (h1 : W < P) (hR0 : 0 ≤ R) (hR : R < P) : W = R := by
 have e3 : W = R + (1 - t) * P := by rw [Int.sub_mul, Int.one_mul]; omega
 have t1 : 1 - t = 0 := by
  rcases Int.lt_trichotomy (1 - t) 0 with h | h | h
  ·
   have : (1 - t) * P ≤ (-1) * P := Int.mul_le_mul_of_nonneg_right (by omega) (by omega)
   omega
  ·
   exact h
  ·
   have : 1 * P ≤ (1 - t) * P := Int.mul_le_mul_of_nonneg_right (by omega) (by omega)
   omega
 rw [e3, t1]; omega
theorem lims_getD (L : Nat) : ∀ (n i : Nat), i < L → (lims L n).getD i 0 = ((n / 4294967296 ^ i % 4294967296 : Nat) : Int) := by
 induction L with
 | zero => intro n i h; omega
 | succ L ih =>
  intro n i h
  cases i with
  | zero => simp [lims]
  | succ i =>
   rw [lims, List.getD_cons_succ, ih _ _ (by omega), Nat.div_div_eq_div_mul, Nat.pow_succ, Nat.mul_comm 4294967296]
end Cw
/- Subtracting limb by limb, shifting by whole limbs and bits, and dividing by subtracting shifted numbers. -/
namespace Cw
/-- i limbs of b are subtracted from a; c is borrowed -/
def RSubInv (a b out : List Int) (c : Int) (i : Nat) : Prop := ev out 4294967296 = ev (a.take i) 4294967296 - ev (b.take i) 4294967296 + c * 4294967296 ^ i
theorem RSubInv.step {a b out : List Int} {c : Int} {i : Nat} (h : RSubInv a b out c i) (hl : out.length = i) :
  RSubInv a b (out ++ [(a.getD i 0 + 4294967296 - b.getD i 0 - c) % 4294967296]) (1 - (a.getD i 0 + 4294967296 - b.getD i 0 - c) / 4294967296) (i + 1) := by
 unfold RSubInv at *
 rw [ev_append, hl, h, ev_take_succ', ev_take_succ', Int.pow_succ]
 have e1 := Int.emod_add_mul_ediv (a.getD i 0 + 4294967296 - b.getD i 0 - c) 4294967296
 generalize (a.getD i 0 + 4294967296 - b.getD i 0 - c) % 4294967296 = r at *
 generalize (a.getD i 0 + 4294967296 - b.getD i 0 - c) / 4294967296 = q at *
 have e2 : r = a.getD i 0 + 4294967296 - b.getD i 0 - c - 4294967296 * q := by omega
 simp only [ev_cons, ev_nil, Int.mul_zero, Int.add_zero]
 rw [e2]
 generalize (4294967296 : Int) ^ i = P at *
 generalize ev (a.take i) 4294967296 = E at *
 generalize ev (b.take i) 4294967296 = F at *
 generalize a.getD i 0 = x at *
 generalize b.getD i 0 = y at *
 clear h e1 e2
 grind
theorem RSubInv.start (a b : List Int) : RSubInv a b [] 0 0 := by unfold RSubInv; simp
theorem RSubInv.last {a b out : List Int} {c : Int} {m n : Nat} (h : RSubInv a b out c a.length) (ha : Is a m) (hb : Is b n) (hlb : b.length ≤ a.length) (ho : Lim out) (hol : out.length = a.length) (hc : c = 0 ∨ c = 1) (hmn : n ≤ m) : Is out (m - n) := by
 unfold RSubInv at h
 rw [List.take_length, List.take_of_length_le hlb, ha.2, hb.2] at h
 have h1 := ho.lt
 rw [hol] at h1
 refine ⟨ho, ?_⟩
 rcases hc with hc | hc
 ·
  rw [hc] at h; omega
 ·
  exfalso
  rw [hc, Int.one_mul] at h
  omega
/-- i limbs of b are subtracted from w in place; c is borrowed -/
def PSubInv (a b out : List Int) (c : Int) (i : Nat) : Prop :=
 ev out 4294967296 = ev a 4294967296 - ev (b.take i) 4294967296 + c * 4294967296 ^ i ∧ ∀ j, i ≤ j → out.getD j 0 = a.getD j 0
theorem PSubInv.start (a b : List Int) : PSubInv a b a 0 0 := ⟨by simp, fun _ _ => rfl⟩
theorem PSubInv.step {a b out : List Int} {c d c' : Int} {i : Nat} (h : PSubInv a b out c i) (hi : i < out.length)
  (hd : d = a.getD i 0 - c - b.getD i 0 + c' * 4294967296) : PSubInv a b (out.set i d) c' (i + 1) := by
 obtain ⟨h1, h2⟩ := h
 refine ⟨?_, fun j hj => by rw [lset_ne _ _ _ _ (by omega)]; exact h2 j (by omega)⟩
 rw [ev_set _ _ _ _ hi, h2 i (Nat.le_refl _), h1, ev_take_succ', Int.pow_succ, hd]
 generalize (4294967296 : Int) ^ i = P at *
 generalize ev (b.take i) 4294967296 = F at *
 generalize ev a 4294967296 = E at *
 generalize a.getD i 0 = x at *
 generalize b.getD i 0 = y at *
 clear h1 h2 hd
 grind
theorem PSubInv.last {a b out : List Int} {c : Int} {m n : Nat} (h : PSubInv a b out c a.length) (ha : Is a m) (hb : Is b n) (hlb : b.length ≤ a.length) (ho : Lim out) (hol : out.length = a.length) (hc : c = 0 ∨ c = 1) (hmn : n ≤ m) : Is out (m - n) := by
 have h := h.1
 rw [List.take_of_length_le hlb, ha.2, hb.2] at h
 have h1 := ho.lt
 rw [hol] at h1
 refine ⟨ho, ?_⟩
 rcases hc with hc | hc
 ·
  rw [hc] at h; omega
 ·
  exfalso
  rw [hc, Int.one_mul] at h
  omega
/-- W zero limbs, then i limbs of a times M; c is carried -/
def RShInv (a out : List Int) (M : Int) (W : Nat) (c : Int) (i : Nat) : Prop := ev out 4294967296 + c * 4294967296 ^ (W + i) = M * 4294967296 ^ W * ev (a.take i) 4294967296
theorem RShInv.start (a : List Int) (M : Int) (W : Nat) : RShInv a (List.replicate W 0) M W 0 0 := by
 unfold RShInv; rw [ev_replicate_zero]; simp
theorem RShInv.step {a out : List Int} {M c : Int} {W i : Nat} (h : RShInv a out M W c i) (hl : out.length = W + i) :
  RShInv a (out ++ [(a.getD i 0 * M + c) % 4294967296]) M W ((a.getD i 0 * M + c) / 4294967296) (i + 1) := by
 unfold RShInv at *
 rw [ev_append, hl, ev_take_succ', ← Nat.add_assoc, Int.pow_succ]
 have e1 := Int.emod_add_mul_ediv (a.getD i 0 * M + c) 4294967296
 generalize (a.getD i 0 * M + c) % 4294967296 = r at *
 generalize (a.getD i 0 * M + c) / 4294967296 = q at *
 have e2 : r = a.getD i 0 * M + c - 4294967296 * q := by omega
 simp only [ev_cons, ev_nil, Int.mul_zero, Int.add_zero]
 rw [e2]
 rw [Int.pow_add] at *
 generalize (4294967296 : Int) ^ i = P at *
 generalize (4294967296 : Int) ^ W = Q at *
 generalize ev out 4294967296 = E at *
 generalize ev (a.take i) 4294967296 = F at *
 generalize a.getD i 0 = x at *
 clear e1 e2
 grind
theorem RShInv.last {a out : List Int} {M c : Int} {W : Nat} (h : RShInv a out M W c a.length) (hl : out.length = W + a.length) : ev (out ++ [c]) 4294967296 = M * 4294967296 ^ W * ev a 4294967296 := by
 unfold RShInv at h
 rw [List.take_length] at h
 rw [ev_append, hl, ← h]
 simp only [ev_cons, ev_nil, Int.mul_zero, Int.add_zero]
 rw [Int.mul_comm c]
theorem two_pow_split (n : Nat) : (2 : Int) ^ n = 2 ^ (n % 32) * 4294967296 ^ (n / 32) := by
 rw [show (4294967296 : Int) = 2 ^ 32 by rfl, ← Int.pow_mul, ← Int.pow_add]
 congr 1
 omega
/-- quotient so far q, rest so far r -/
def DivInv (m b q r i : Nat) : Prop := m = q * b + r ∧ r < b * 2 ^ i
theorem DivInv.start {m b : Nat} (hb : b ≠ 0) (i : Nat) (h : blen m ≤ blen b + i - 1) : DivInv m b 0 m i := by
 refine ⟨by omega, ?_⟩
 have h1 := blen_lt m
 have h2 := blen_le hb
 have h3 := blen_pos hb
 have h4 : 2 ^ blen m ≤ 2 ^ (blen b - 1 + i) := Nat.pow_le_pow_right (by omega) (by omega)
 rw [Nat.pow_add] at h4
 exact Nat.lt_of_lt_of_le h1 (Nat.le_trans h4 (Nat.mul_le_mul_right _ h2))
theorem DivInv.yes {m b q r i : Nat} (h : DivInv m b q r (i + 1)) (hge : b * 2 ^ i ≤ r) : DivInv m b (q + 2 ^ i) (r - b * 2 ^ i) i := by
 obtain ⟨h1, h2⟩ := h
 rw [Nat.pow_succ, ← Nat.mul_assoc] at h2
 refine ⟨?_, by omega⟩
 rw [Nat.add_mul, Nat.mul_comm (2 ^ i)]; omega
theorem DivInv.no {m b q r i : Nat} (h : DivInv m b q r (i + 1)) (hlt : r < b * 2 ^ i) : DivInv m b q r i := ⟨h.1, hlt⟩
theorem DivInv.last {m b q r : Nat} (h : DivInv m b q r 0) : q = m / b ∧ r = m % b := by
 obtain ⟨h1, h2⟩ := h
 rw [Nat.pow_zero, Nat.mul_one] at h2
 rw [h1, Nat.mul_comm, Nat.mul_add_div (by omega), Nat.mul_add_mod, Nat.div_eq_of_lt h2, Nat.mod_eq_of_lt h2]
 exact ⟨rfl, rfl⟩
end Cw
/- The estimate of a quotient's digit out of the leading digits (Knuth's algorithm D), in plain integers. -/
namespace Cw
/-- what is known of the numbers: V = V3 P + vl, U = T3 P + ul, V3 = v1 B + v2, T3 = top B + u2 -/
structure KN (B P v1 v2 vl top u2 ul q : Int) : Prop where
 B0 : 0 < B
 P0 : 0 < P
 hv1 : 1 ≤ v1
 hv2 : 0 ≤ v2 ∧ v2 < B
 hvl : 0 ≤ vl ∧ vl < P
 htop : 0 ≤ top
 hu2 : 0 ≤ u2 ∧ u2 < B
 hul : 0 ≤ ul ∧ ul < P
 q0 : 0 ≤ q
 q1 : q < B
 lo : q * ((v1 * B + v2) * P + vl) ≤ (top * B + u2) * P + ul
 hi : (top * B + u2) * P + ul < (q + 1) * ((v1 * B + v2) * P + vl)
variable {B P v1 v2 vl top u2 ul q : Int}
theorem KN.le3 (h : KN B P v1 v2 vl top u2 ul q) : q * (v1 * B + v2) ≤ top * B + u2 := by
 have h1 : 0 ≤ q * vl := Int.mul_nonneg h.q0 h.hvl.1
 have h2 := h.lo
 rw [Int.mul_add, ← Int.mul_assoc] at h2
 have h3 := h.hul.2
 have h4 : (q * (v1 * B + v2)) * P < (top * B + u2 + 1) * P := by rw [Int.add_mul, Int.one_mul]; omega
 have := Int.lt_of_mul_lt_mul_right h4 (Int.le_of_lt h.P0)
 omega
/-- the leading digits are below those of V B -/
theorem KN.top_lt (h : KN B P v1 v2 vl top u2 ul q) : top < (v1 + 1) * B := by
 have hP := h.P0
 have hB := h.B0
 have hq := h.q1
 have h0 : 0 ≤ (v1 * B + v2) * P + vl := by
  have a1 := Int.mul_nonneg (by have := h.hv1; omega : (0 : Int) ≤ v1) (Int.le_of_lt hB)
  have a2 := h.hv2.1
  have := Int.mul_nonneg (by omega : 0 ≤ v1 * B + v2) (Int.le_of_lt hP)
  have := h.hvl.1
  omega
 have h1 : (q + 1) * ((v1 * B + v2) * P + vl) ≤ B * ((v1 * B + v2) * P + vl) := Int.mul_le_mul_of_nonneg_right (by omega) h0
 have h2 := h.hi
 -- V < (v1 + 1) B P, U at least top B P
 have h3 : (v1 * B + v2) * P + vl < ((v1 + 1) * B) * P := by
  have a1 : (v1 * B + v2 + 1) * P ≤ ((v1 + 1) * B) * P := Int.mul_le_mul_of_nonneg_right (by rw [Int.add_mul, Int.one_mul]; have := h.hv2.2; omega) (Int.le_of_lt hP)
  rw [Int.add_mul (v1 * B + v2) 1 P, Int.one_mul] at a1
  have := h.hvl.2
  omega
 have h4 : B * ((v1 * B + v2) * P + vl) < B * (((v1 + 1) * B) * P) := Int.mul_lt_mul_of_pos_left h3 hB
 have h5 : (top * B) * P ≤ (top * B + u2) * P := Int.mul_le_mul_of_nonneg_right (by have := h.hu2.1; omega) (Int.le_of_lt hP)
 have h6 := h.hul.1
 have h7 : top * (B * P) < ((v1 + 1) * B) * (B * P) := by
  rw [← Int.mul_assoc]
  rw [show ((v1 + 1) * B) * (B * P) = B * (((v1 + 1) * B) * P) from by rw [Int.mul_left_comm]]
  omega
 exact Int.lt_of_mul_lt_mul_right h7 (Int.mul_nonneg (Int.le_of_lt hB) (Int.le_of_lt hP))
/-- at the start -/
theorem KN.start (h : KN B P v1 v2 vl top u2 ul q) : q ≤ top / v1 := by
 have h1 := h.le3
 have h2 : 0 ≤ q * v2 := Int.mul_nonneg h.q0 h.hv2.1
 have h3 : (q * v1) * B < (top + 1) * B := by
  rw [Int.mul_add, ← Int.mul_assoc] at h1
  rw [Int.add_mul, Int.one_mul]
  have := h.hu2.2
  omega
 have h4 := Int.lt_of_mul_lt_mul_right h3 (Int.le_of_lt h.B0)
 exact (Int.le_ediv_iff_mul_le (by have := h.hv1; omega)).2 (by omega)
theorem KN.down (h : KN B P v1 v2 vl top u2 ul q) {e r : Int} (he : e * v1 + r = top) (hd : r * B + u2 < e * v2) : q ≤ e - 1 := by
 have h1 := h.le3
 have h2 : top * B = e * v1 * B + r * B := by rw [← he, Int.add_mul]
 have h3 : q * (v1 * B + v2) < e * (v1 * B + v2) := by
  have : e * (v1 * B + v2) = e * v1 * B + e * v2 := by rw [Int.mul_add, Int.mul_assoc]
  rw [this]; omega
 have h5 : 0 ≤ v1 * B + v2 := by
  have := Int.mul_nonneg (by have := h.hv1; omega : (0 : Int) ≤ v1) (Int.le_of_lt h.B0)
  have := h.hv2.1
  omega
 have := Int.lt_of_mul_lt_mul_right h3 h5
 omega
theorem KN.stop (h : KN B P v1 v2 vl top u2 ul q) {e r : Int} (he0 : 0 ≤ e) (heB : e < B) (he : e * v1 + r = top) (hd : e * v2 ≤ r * B + u2) : e ≤ q + 1 := by
 have h2 : top * B = e * v1 * B + r * B := by rw [← he, Int.add_mul]
 have h3 : e * (v1 * B + v2) ≤ top * B + u2 := by
  have : e * (v1 * B + v2) = e * v1 * B + e * v2 := by rw [Int.mul_add, Int.mul_assoc]
  rw [this]; omega
 have h4 : e * (v1 * B + v2) * P ≤ (top * B + u2) * P := Int.mul_le_mul_of_nonneg_right h3 (Int.le_of_lt h.P0)
 have h5 : e * vl ≤ e * P := Int.mul_le_mul_of_nonneg_left (Int.le_of_lt h.hvl.2) he0
 have h6 : (e + 1) * P ≤ B * P := Int.mul_le_mul_of_nonneg_right (by omega) (Int.le_of_lt h.P0)
 have h7 : 1 * (B * P) ≤ v1 * (B * P) := Int.mul_le_mul_of_nonneg_right h.hv1 (Int.mul_nonneg (Int.le_of_lt h.B0) (Int.le_of_lt h.P0))
 have h8 : 0 ≤ v2 * P := Int.mul_nonneg h.hv2.1 (Int.le_of_lt h.P0)
 have h9 := h.hvl.1
 have h10 := h.hul.1
 have hP := h.P0
 have e1 : e * ((v1 * B + v2) * P + vl) = e * (v1 * B + v2) * P + e * vl := by rw [Int.mul_add, Int.mul_assoc]
 have e2 : (v1 * B + v2) * P = v1 * (B * P) + v2 * P := by rw [Int.add_mul, Int.mul_assoc]
 rw [Int.add_mul, Int.one_mul] at h6
 have h11 : e * ((v1 * B + v2) * P + vl) < (q + 2) * ((v1 * B + v2) * P + vl) := by
  have h12 := h.hi
  have e3 : (q + 2) * ((v1 * B + v2) * P + vl) = (q + 1) * ((v1 * B + v2) * P + vl) + ((v1 * B + v2) * P + vl) := by
   rw [show q + 2 = (q + 1) + 1 by omega, Int.add_mul (q + 1) 1, Int.one_mul]
  rw [e3, e1]
  omega
 have h13 : 0 ≤ (v1 * B + v2) * P + vl := by
  rw [e2]
  have : 0 ≤ B * P := Int.mul_nonneg (Int.le_of_lt h.B0) (Int.le_of_lt h.P0)
  omega
 have := Int.lt_of_mul_lt_mul_right h11 h13
 omega
end Cw
/- The state of Knuth's algorithm D out of the numbers' limbs. -/
namespace Cw
theorem ev_top2 (v : List Int) (L : Nat) (h : v.length = L + 2) : ev v 4294967296 = (v.getD (L + 1) 0 * 4294967296 + v.getD L 0) * 4294967296 ^ L + ev (v.take L) 4294967296 := by
 have h1 := ev_take_succ' 4294967296 v (L + 1)
 have h2 := ev_take_succ' 4294967296 v L
 rw [List.take_of_length_le (by omega)] at h1
 rw [h1, h2, Int.pow_succ]
 generalize (4294967296 : Int) ^ L = P
 generalize v.getD (L + 1) 0 = a
 generalize v.getD L 0 = b
 clear h1 h2
 grind
theorem ev_top3 (v : List Int) (L : Nat) (h : v.length = L + 3) : ev v 4294967296 = ((v.getD (L + 2) 0 * 4294967296 + v.getD (L + 1) 0) * 4294967296 + v.getD L 0) * 4294967296 ^ L + ev (v.take L) 4294967296 := by
 have h0 := ev_take_succ' 4294967296 v (L + 2)
 have h1 := ev_take_succ' 4294967296 v (L + 1)
 have h2 := ev_take_succ' 4294967296 v L
 rw [List.take_of_length_le (by omega)] at h0
 have p1 : (4294967296 : Int) ^ (L + 1) = 4294967296 ^ L * 4294967296 := Int.pow_succ ..
 have p2 : (4294967296 : Int) ^ (L + 2) = 4294967296 ^ L * 4294967296 * 4294967296 := by rw [← p1]; exact Int.pow_succ ..
 rw [h0, h1, h2, p2, p1]
 clear p1 p2
 generalize (4294967296 : Int) ^ L = P
 generalize v.getD (L + 2) 0 = c
 generalize v.getD (L + 1) 0 = a
 generalize v.getD L 0 = b
 clear h0 h1 h2
 grind
theorem take_low {v : List Int} (hv : Lim v) (L : Nat) (h : L ≤ v.length) : 0 ≤ ev (v.take L) 4294967296 ∧ ev (v.take L) 4294967296 < 4294967296 ^ L := by
 have := (hv.take L).lt
 rw [List.length_take, Nat.min_eq_left h] at this
 exact ⟨(hv.take L).nonneg, this⟩
theorem kn_of {u v : List Int} {L U V : Nat} (hu : Is u U) (hv : Is v V) (hul : u.length = L + 3) (hvl : v.length = L + 2) (ht : 1 ≤ v.getD (L + 1) 0) (hV : 0 < V) (hlt : U < V * 4294967296) :
  KN 4294967296 (4294967296 ^ L) (v.getD (L + 1) 0) (v.getD L 0) (ev (v.take L) 4294967296) (u.getD (L + 2) 0 * 4294967296 + u.getD (L + 1) 0) (u.getD L 0) (ev (u.take L) 4294967296) ((U / V : Nat) : Int) := by
 have e1 := ev_top2 v L hvl
 have e2 := ev_top3 u L hul
 rw [hv.2] at e1
 rw [hu.2] at e2
 have hdm : (U : Int) = ((U / V : Nat) : Int) * (V : Int) + ((U % V : Nat) : Int) := by
  rw [← Int.natCast_mul, ← Int.natCast_add, Int.ofNat_inj, Nat.mul_comm]; exact (Nat.div_add_mod U V).symm
 have hR0 : (0 : Int) ≤ ((U % V : Nat) : Int) := Int.natCast_nonneg _
 have hRV : ((U % V : Nat) : Int) < (V : Int) := Int.ofNat_lt.2 (Nat.mod_lt _ hV)
 have hq : U / V < 4294967296 := Nat.div_lt_of_lt_mul hlt
 have t1 := hu.1.getD (L + 2)
 have t2 := hu.1.getD (L + 1)
 refine ⟨by omega, Int.pow_pos (by omega), ht, hv.1.getD L, take_low hv.1 L (by omega), by omega, hu.1.getD L, take_low hu.1 L (by omega), Int.natCast_nonneg _, ?_, ?_, ?_⟩
 ·
  exact Int.ofNat_lt.2 hq
 ·
  rw [← e1, ← e2, hdm]; omega
 ·
  rw [← e1, ← e2, Int.add_mul, Int.one_mul, hdm]; omega
end Cw
/- A number times a power of two, limb by limb. -/
namespace Cw
/-- i limbs of a times M; c is carried -/
def ShInv (a out : List Int) (M c : Int) (i : Nat) : Prop := ev out 4294967296 + c * 4294967296 ^ i = M * ev (a.take i) 4294967296
theorem ShInv.start (a : List Int) (M : Int) (n : Nat) : ShInv a (List.replicate n 0) M 0 0 := by
 unfold ShInv; rw [ev_replicate_zero]; simp
theorem ShInv.step {a out : List Int} {M c : Int} {i : Nat} (h : ShInv a out M c i) (hi : i < out.length) (hz : out.getD i 0 = 0) :
  ShInv a (out.set i ((a.getD i 0 * M + c) % 4294967296)) M ((a.getD i 0 * M + c) / 4294967296) (i + 1) := by
 unfold ShInv at *
 rw [ev_set _ _ _ _ hi, hz, ev_take_succ', Int.pow_succ]
 have e1 := Int.emod_add_mul_ediv (a.getD i 0 * M + c) 4294967296
 generalize (4294967296 : Int) ^ i = P at *
 generalize ev out 4294967296 = E at *
 generalize (a.getD i 0 * M + c) % 4294967296 = r at *
 generalize (a.getD i 0 * M + c) / 4294967296 = q at *
 have e2 : r = a.getD i 0 * M + c - 4294967296 * q := by omega
 rw [e2]
 grind
theorem ShInv.last {a out : List Int} {M c : Int} {i : Nat} (h : ShInv a out M c i) (ha : a.length ≤ i) (hi : i < out.length) (hz : out.getD i 0 = 0) :
  ev (out.set i c) 4294967296 = M * ev a 4294967296 := by
 unfold ShInv at h
 rw [List.take_of_length_le ha] at h
 rw [ev_set _ _ _ _ hi, hz, ← h, Int.sub_zero]
/-- the carry stays below M -/
theorem sh_carry {x M c : Int} (hx : 0 ≤ x ∧ x < 4294967296) (hM : 1 ≤ M ∧ M ≤ 2147483648) (hc : 0 ≤ c ∧ c < M) :
  0 ≤ x * M ∧ x * M + c < 4294967296 * M ∧ 0 ≤ (x * M + c) / 4294967296 ∧ (x * M + c) / 4294967296 < M := by
 have h0 : 0 ≤ x * M := Int.mul_nonneg hx.1 (by omega)
 have h1 : (x + 1) * M ≤ 4294967296 * M := Int.mul_le_mul_of_nonneg_right (by omega) (by omega)
 rw [Int.add_mul, Int.one_mul] at h1
 refine ⟨h0, by omega, Int.ediv_nonneg (by omega) (by omega), Int.ediv_lt_of_lt_mul (by omega) (by omega)⟩
end Cw
/- Long division: the rest in x8, the quotient's digits in x4, from the top down. -/
namespace Cw
theorem split3 (x : List Int) (j K : Nat) (h : j + K + 1 ≤ x.length) :
  ev x 4294967296 = ev (x.take j) 4294967296 + 4294967296 ^ j * (ev ((x.take (j + K + 1)).drop j) 4294967296 + 4294967296 ^ (K + 1) * ev (x.drop (j + K + 1)) 4294967296) := by
 have e1 : x = x.take (j + K + 1) ++ x.drop (j + K + 1) := (List.take_append_drop _ _).symm
 have e2 : x.take (j + K + 1) = x.take j ++ (x.take (j + K + 1)).drop j := by
  have h1 := List.take_append_drop j (x.take (j + K + 1))
  rw [List.take_take, Nat.min_eq_left (by omega)] at h1
  exact h1.symm
 have l1 : (x.take j).length = j := by rw [List.length_take]; omega
 have l2 : ((x.take (j + K + 1)).drop j).length = K + 1 := by rw [List.length_drop, List.length_take]; omega
 rw [show ev x 4294967296 = ev (x.take j ++ ((x.take (j + K + 1)).drop j ++ x.drop (j + K + 1))) 4294967296 by rw [← List.append_assoc, ← e2, ← e1], ev_append, ev_append, l1, l2]
theorem win_length (x : List Int) (j K : Nat) (h : j + K + 1 ≤ x.length) : ((x.take (j + K + 1)).drop j).length = K + 1 := by
 rw [List.length_drop, List.length_take]; omega
theorem put_length (x r : List Int) (j K : Nat) (h : j + K + 1 ≤ x.length) (hr : r.length = K + 1) : (x.take j ++ r ++ x.drop (j + K + 1)).length = x.length := by
 simp only [List.length_append, List.length_take, List.length_drop, hr]; omega
/-- x4 times V and x8 are U; the rest is below V times B^t -/
def LongInv (x4 x8 : List Int) (U V t : Nat) : Prop :=
 Lim x4 ∧ Lim x8 ∧ ev x4 4294967296 * V + ev x8 4294967296 = (U : Int) ∧ ev x8 4294967296 < (V : Int) * 4294967296 ^ t
/-- the window's number -/
theorem LongInv.win {x4 x8 : List Int} {U V j K : Nat} (h : LongInv x4 x8 U V (j + 1)) (hV : V < 4294967296 ^ K) (hl : j + K + 1 ≤ x8.length) :
  ∃ W : Nat, Is ((x8.take (j + K + 1)).drop j) W ∧ W < V * 4294967296 ∧
   ev x8 4294967296 = ev (x8.take j) 4294967296 + 4294967296 ^ j * (W : Int) ∧ ev (x8.drop (j + K + 1)) 4294967296 = 0 ∧ 0 ≤ ev (x8.take j) 4294967296 ∧ ev (x8.take j) 4294967296 < 4294967296 ^ j := by
 obtain ⟨h1, h2, h3, h4⟩ := h
 have hw : Lim ((x8.take (j + K + 1)).drop j) := (h2.take _).drop _
 have e := split3 x8 j K hl
 have hlow := (h2.take j).nonneg
 have hlow2 := (h2.take j).lt
 rw [List.length_take, Nat.min_eq_left (by omega)] at hlow2
 have hhi := (h2.drop (j + K + 1)).nonneg
 have hwn := hw.nonneg
 have hVI : (V : Int) + 1 ≤ 4294967296 ^ K := by
  have := Int.ofNat_le.2 (show V + 1 ≤ 4294967296 ^ K from hV)
  rw [Int.natCast_pow] at this
  exact this
 have hP : (0 : Int) < 4294967296 ^ j := Int.pow_pos (by omega)
 have hK1 : (4294967296 : Int) ^ (K + 1) = 4294967296 ^ K * 4294967296 := Int.pow_succ ..
 have hj1 : (4294967296 : Int) ^ (j + 1) = 4294967296 ^ j * 4294967296 := Int.pow_succ ..
 rw [hj1] at h4
 rw [hK1] at e
 have hz : ev (x8.drop (j + K + 1)) 4294967296 = 0 := by
  rcases (by omega : 0 < ev (x8.drop (j + K + 1)) 4294967296 ∨ ev (x8.drop (j + K + 1)) 4294967296 ≤ 0) with hp | hp
  ·
   exfalso
   have a1 : (4294967296 : Int) ^ K * 4294967296 * 1 ≤ 4294967296 ^ K * 4294967296 * ev (x8.drop (j + K + 1)) 4294967296 := Int.mul_le_mul_of_nonneg_left (by omega) (Int.mul_nonneg (by omega) (by omega))
   have a2 : (4294967296 : Int) ^ j * (4294967296 ^ K * 4294967296) ≤ 4294967296 ^ j * (ev ((x8.take (j + K + 1)).drop j) 4294967296 + 4294967296 ^ K * 4294967296 * ev (x8.drop (j + K + 1)) 4294967296) := Int.mul_le_mul_of_nonneg_left (by omega) (by omega)
   have a3 : (V : Int) * (4294967296 ^ j * 4294967296) ≤ 4294967296 ^ K * (4294967296 ^ j * 4294967296) := Int.mul_le_mul_of_nonneg_right (by omega) (Int.mul_nonneg (by omega) (by omega))
   have a4 : (4294967296 : Int) ^ j * (4294967296 ^ K * 4294967296) = 4294967296 ^ K * (4294967296 ^ j * 4294967296) := by
    generalize (4294967296 : Int) ^ j = A
    generalize (4294967296 : Int) ^ K = C
    grind
   omega
  ·
   omega
 have hi := hw.is
 refine ⟨_, hi, ?_, ?_, hz, hlow, hlow2⟩
 ·
  rw [hz, Int.mul_zero, Int.add_zero, hi.2] at e
  generalize (ev ((x8.take (j + K + 1)).drop j) 4294967296).toNat = W at *
  apply Int.ofNat_lt.1
  rw [Int.natCast_mul]
  rcases (by omega : (W : Int) < (V : Int) * 4294967296 ∨ (V : Int) * 4294967296 ≤ (W : Int)) with hp | hp
  ·
   exact hp
  ·
   exfalso
   have a1 : (4294967296 : Int) ^ j * ((V : Int) * 4294967296) ≤ 4294967296 ^ j * (W : Int) := Int.mul_le_mul_of_nonneg_left hp (by omega)
   have a2 : (4294967296 : Int) ^ j * ((V : Int) * 4294967296) = (V : Int) * (4294967296 ^ j * 4294967296) := by
    generalize (4294967296 : Int) ^ j = A
    grind
   omega
 ·
  rw [hz, Int.mul_zero, Int.add_zero, hi.2] at e
  exact e
/-- a digit of the quotient -/
theorem LongInv.step {x4 x8 : List Int} {U V j K W : Nat} (h : LongInv x4 x8 U V (j + 1)) (hV0 : 0 < V) (hVK : V < 4294967296 ^ K) (hl : j + K + 1 ≤ x8.length)
  (hj : j < x4.length) (hz : x4.getD j 0 = 0) (hlt : W < V * 4294967296)
  (he : ev x8 4294967296 = ev (x8.take j) 4294967296 + 4294967296 ^ j * (W : Int)) (hhi : ev (x8.drop (j + K + 1)) 4294967296 = 0)
  (h0 : 0 ≤ ev (x8.take j) 4294967296) (h1 : ev (x8.take j) 4294967296 < 4294967296 ^ j) :
  LongInv (x4.set j ((W / V : Nat) : Int)) (x8.take j ++ lims (K + 1) (W % V) ++ x8.drop (j + K + 1)) U V j := by
 obtain ⟨g1, g2, g3, g4⟩ := h
 have hq : W / V < 4294967296 := Nat.div_lt_of_lt_mul hlt
 have hr : W % V < V := Nat.mod_lt _ hV0
 have hdm : V * (W / V) + W % V = W := Nat.div_add_mod W V
 have hrl : W % V < 4294967296 ^ (K + 1) := Nat.lt_trans hr (Nat.lt_of_lt_of_le hVK (Nat.pow_le_pow_right (by omega) (by omega)))
 have l1 : (x8.take j).length = j := by rw [List.length_take]; omega
 have hev : ev (x8.take j ++ lims (K + 1) (W % V) ++ x8.drop (j + K + 1)) 4294967296 = ev (x8.take j) 4294967296 + 4294967296 ^ j * ((W % V : Nat) : Int) := by
  rw [List.append_assoc, ev_append, ev_append, l1, hhi, (lims_is hrl).2]
  simp
 refine ⟨g1.set _ (Int.natCast_nonneg _) (Int.ofNat_lt.2 hq), ((g2.take _).append (lims_lim _ _)).append (g2.drop _), ?_, ?_⟩
 ·
  rw [hev, ev_set _ _ _ _ hj, hz, ← g3, he]
  have hdm' := congrArg (fun x : Nat => (x : Int)) hdm
  simp only [Int.natCast_add, Int.natCast_mul] at hdm'
  rw [← hdm']
  generalize (4294967296 : Int) ^ j = A
  generalize ev (x8.take j) 4294967296 = F
  generalize ev x4 4294967296 = E
  generalize ((W / V : Nat) : Int) = q
  generalize ((W % V : Nat) : Int) = r
  clear hdm' hev l1 hrl hdm hr hq
  grind
 ·
  rw [hev]
  have a1 : (4294967296 : Int) ^ j * (((W % V : Nat) : Int) + 1) ≤ 4294967296 ^ j * (V : Int) := Int.mul_le_mul_of_nonneg_left (by omega) (by omega)
  rw [Int.mul_add, Int.mul_one] at a1
  rw [Int.mul_comm (V : Int)]
  omega
theorem LongInv.last {x4 x8 : List Int} {U V : Nat} (h : LongInv x4 x8 U V 0) : Is x4 (U / V) ∧ Is x8 (U % V) := by
 obtain ⟨g1, g2, g3, g4⟩ := h
 have i4 := g1.is
 have i8 := g2.is
 rw [i4.2, i8.2] at g3
 rw [i8.2] at g4
 generalize (ev x4 4294967296).toNat = q at *
 generalize (ev x8 4294967296).toNat = r at *
 have h1 : q * V + r = U := by
  apply Int.ofNat_inj.1
  rw [Int.natCast_add, Int.natCast_mul]; exact g3
 have h2 : r < V := by simp at g4; exact g4
 have e1 : U / V = q := by rw [← h1, Nat.mul_comm, Nat.mul_add_div (by omega), Nat.div_eq_of_lt h2]; rfl
 have e2 : U % V = r := by rw [← h1, Nat.mul_comm, Nat.mul_add_mod, Nat.mod_eq_of_lt h2]
 rw [e1, e2]
 exact ⟨i4, i8⟩
/-- the divisor n with top limb top, shifted up so that its highest bit is set -/
theorem norm_top {top low s b L n : Nat} (hb : blen top = b) (hs : s + b = 32) (h0 : 0 < top) (hlow : low < 2 ^ (32 * L)) (hn : n = low + top * 2 ^ (32 * L)) :
  2 ^ (32 * L) * 2 ^ 31 ≤ n * 2 ^ s ∧ n * 2 ^ s < 2 ^ (32 * L) * 4294967296 := by
 have h1 := blen_lt top
 have h2 := blen_le (n := top) (by omega)
 have h3 := blen_pos (n := top) (by omega)
 rw [hb] at h1 h2 h3
 have hp : 0 < 2 ^ s := Nat.two_pow_pos s
 have e1 : 2 ^ b * 2 ^ s = 4294967296 := by rw [← Nat.pow_add, show b + s = 32 by omega]
 have e2 : 2 ^ (b - 1) * 2 ^ s = 2 ^ 31 := by rw [← Nat.pow_add, show b - 1 + s = 31 by omega]
 generalize 2 ^ (32 * L) = A at *
 have a1 : 2 ^ (b - 1) * A ≤ top * A := Nat.mul_le_mul_right _ h2
 have a2 : (top + 1) * A ≤ 2 ^ b * A := Nat.mul_le_mul_right _ h1
 rw [Nat.add_mul, Nat.one_mul] at a2
 constructor
 ·
  have a3 : 2 ^ (b - 1) * A * 2 ^ s ≤ n * 2 ^ s := Nat.mul_le_mul_right _ (by omega)
  have e3 : 2 ^ (b - 1) * A * 2 ^ s = A * 2 ^ 31 := by rw [Nat.mul_right_comm, e2, Nat.mul_comm]
  rw [e3] at a3
  exact a3
 ·
  have a3 : n * 2 ^ s < 2 ^ b * A * 2 ^ s := Nat.mul_lt_mul_of_pos_right (by omega) hp
  have e3 : 2 ^ b * A * 2 ^ s = A * 4294967296 := by rw [Nat.mul_right_comm, e1, Nat.mul_comm]
  rw [e3] at a3
  exact a3
end Cw
/- A number divided by a power of two, limb by limb. -/
namespace Cw
theorem back_limb (m s : Nat) (hs : s ≤ 31) : (m % 4294967296 + m / 4294967296 % 4294967296 * 4294967296) / 2 ^ s % 4294967296 = m / 2 ^ s % 4294967296 := by
 have e : m % 4294967296 + m / 4294967296 % 4294967296 * 4294967296 = m % (4294967296 * 4294967296) := by
  rw [Nat.mod_mul, Nat.mul_comm 4294967296]
 obtain ⟨t, ht⟩ : ∃ t, t = 32 - s := ⟨_, rfl⟩
 have e2 : 4294967296 * 4294967296 = 2 ^ s * (4294967296 * 2 ^ t) := by
  rw [Nat.mul_left_comm, ← Nat.pow_add, show s + t = 32 by omega]
 rw [e, e2, Nat.mod_mul_right_div_self, Nat.mod_mul_right_mod]
end Cw
/- Polynomials with fractions: lists of coefficients, told by their values. -/
namespace Cw
/-- the value at p -/
def pev : List Rat → Rat → Rat
 | [], _ => 0
 | c :: cs, p => c + p * pev cs p
@[simp] theorem pev_nil (p : Rat) : pev [] p = 0 := rfl
@[simp] theorem pev_cons (c : Rat) (cs : List Rat) (p : Rat) : pev (c :: cs) p = c + p * pev cs p := rfl
/-- without the zeros at the end -/
def rtrim : List Rat → List Rat
 | [] => []
 | x :: xs => if rtrim xs = [] ∧ x = 0 then [] else x :: rtrim xs
theorem pev_zeros (p : Rat) : ∀ l : List Rat, (∀ c ∈ l, c = 0) → pev l p = 0
 | [], _ => rfl
 | x :: xs, h => by
  rw [pev_cons, h x (by simp), pev_zeros p xs (fun c hc => h c (by simp [hc]))]; grind
/-- a root is split off -/
theorem pev_split (a : Rat) : ∀ l : List Rat, ∃ l' : List Rat, l'.length = l.length - 1 ∧ ∀ x, pev l x = pev l a + (x - a) * pev l' x
 | [] => ⟨[], rfl, fun x => by simp; grind⟩
 | [c] => ⟨[], rfl, fun x => by simp; grind⟩
 | c :: d :: cs => by
  obtain ⟨l', h1, h2⟩ := pev_split a (d :: cs)
  refine ⟨pev (d :: cs) a :: l', by simp [h1], fun x => ?_⟩
  rw [pev_cons c, pev_cons c, pev_cons (pev (d :: cs) a), h2 x]; grind
/-- a polynomial that is 0 at all great numbers has no coefficients but 0 -/
theorem pev_zero_all : ∀ (n : Nat) (l : List Rat) (N : Nat), l.length = n → (∀ k : Nat, N ≤ k → pev l (k : Rat) = 0) → ∀ c ∈ l, c = 0
 | 0, l, N, hl, _ => by rw [List.length_eq_zero_iff.1 hl]; simp
 | n + 1, l, N, hl, h => by
  obtain ⟨l', h1, h2⟩ := pev_split (N : Rat) l
  have h0 := h N (Nat.le_refl _)
  have hz : ∀ x, pev l x = (x - (N : Rat)) * pev l' x := fun x => by rw [h2 x, h0]; grind
  have hl' : ∀ c ∈ l', c = 0 := by
   refine pev_zero_all n l' (N + 1) (by rw [h1, hl]; omega) (fun k hk => ?_)
   have h3 := h k (by omega)
   rw [hz] at h3
   have hne : ((k : Rat) - (N : Rat)) ≠ 0 := by
    intro h4
    have h5 : (k : Rat) = (N : Rat) := by grind
    have := Rat.natCast_inj.1 h5
    omega
   rcases Rat.mul_eq_zero.1 h3 with h4 | h4
   ·
    exact absurd h4 hne
   ·
    exact h4
  have hall : ∀ x, pev l x = 0 := fun x => by rw [hz, pev_zeros x l' hl']; grind
  cases l with
  | nil => simp
  | cons c cs =>
   have hc : c = 0 := by
    have := hall 0
    rw [pev_cons] at this
    grind
   have hcs : ∀ c ∈ cs, c = 0 := by
    refine pev_zero_all n cs 1 (by simpa using hl) (fun k hk => ?_)
    have h3 := hall (k : Rat)
    rw [pev_cons, hc] at h3
    have hne : (k : Rat) ≠ 0 := by
     intro h4
     have h5 : (k : Rat) = ((0 : Nat) : Rat) := by rw [h4]; rfl
     have := Rat.natCast_inj.1 h5
     omega
    have h4 : (k : Rat) * pev cs (k : Rat) = 0 := by grind
    rcases Rat.mul_eq_zero.1 h4 with h5 | h5
    ·
     exact absurd h5 hne
    ·
     exact h5
   intro d hd
   rcases List.mem_cons.1 hd with h6 | h6
   ·
    rw [h6, hc]
   ·
    exact hcs d h6
/-- canonical: no zero at the end -/
theorem rtrim_eq_nil : ∀ {l : List Rat}, rtrim l = [] ↔ ∀ c ∈ l, c = 0
 | [] => by simp [rtrim]
 | x :: xs => by
  rw [rtrim]
  by_cases h : rtrim xs = [] ∧ x = 0
  ·
   rw [if_pos h]
   have h1 := rtrim_eq_nil.1 h.1
   refine ⟨fun _ c hc => ?_, fun _ => rfl⟩
   rcases List.mem_cons.1 hc with h2 | h2
   ·
    rw [h2, h.2]
   ·
    exact h1 c h2
  ·
   rw [if_neg h]
   refine ⟨fun h1 => by simp at h1, fun h1 => ?_⟩
   exact absurd ⟨rtrim_eq_nil.2 (fun c hc => h1 c (by simp [hc])), h1 x (by simp)⟩ h
/-- same values, same canonical list -/
theorem rtrim_ext : ∀ (a b : List Rat), (∀ p, pev a p = pev b p) → rtrim a = rtrim b
 | [], b, h => by
  have : ∀ c ∈ b, c = 0 := pev_zero_all _ b 0 rfl (fun k _ => (h _).symm)
  rw [rtrim_eq_nil.2 this]; rfl
 | x :: a, [], h => by
  have : ∀ c ∈ x :: a, c = 0 := pev_zero_all _ (x :: a) 0 rfl (fun k _ => h _)
  rw [rtrim_eq_nil.2 this]; rfl
 | x :: a, y :: b, h => by
  have h0 : x = y := by
   have := h 0
   rw [pev_cons, pev_cons] at this
   grind
  have hab : ∀ p, pev a p = pev b p := by
   -- the difference is 0 at all numbers from 1 on
   intro p
   have hd : ∀ (u v : List Rat), ∃ w : List Rat, ∀ p, pev w p = pev u p - pev v p := by
    intro u
    induction u with
    | nil =>
     intro v
     induction v with
     | nil => exact ⟨[], fun p => by simp; grind⟩
     | cons c v ih =>
      obtain ⟨w, hw⟩ := ih
      refine ⟨(-c) :: w, fun p => ?_⟩
      rw [pev_cons, pev_cons, hw, pev_nil]; grind
    | cons c u ih =>
     intro v
     cases v with
     | nil => exact ⟨c :: u, fun p => by simp; grind⟩
     | cons d v =>
      obtain ⟨w, hw⟩ := ih v
      refine ⟨(c - d) :: w, fun p => ?_⟩
      rw [pev_cons, pev_cons, pev_cons, hw]; grind
   obtain ⟨w, hw⟩ := hd a b
   have hz : ∀ c ∈ w, c = 0 := by
    refine pev_zero_all _ w 1 rfl (fun k hk => ?_)
    have h3 := h (k : Rat)
    rw [pev_cons, pev_cons, h0] at h3
    have hne : (k : Rat) ≠ 0 := by
     intro h4
     have h5 : (k : Rat) = ((0 : Nat) : Rat) := by rw [h4]; rfl
     have := Rat.natCast_inj.1 h5
     omega
    have h4 : (k : Rat) * pev w (k : Rat) = 0 := by rw [hw]; grind
    rcases Rat.mul_eq_zero.1 h4 with h5 | h5
    ·
     exact absurd h5 hne
    ·
     exact h5
   have := pev_zeros p w hz
   rw [hw] at this
   grind
  rw [rtrim, rtrim, rtrim_ext a b hab, h0]
end Cw
/- The binomial theorem for fractions, and the polynomials of one error word. -/
namespace Cw
end Cw
/- Products of polynomials, entry by entry; the coefficients of one error word. -/
namespace Cw
theorem rtrim_snoc (x : Rat) : ∀ xs : List Rat, rtrim (xs ++ [x]) = if x = 0 then rtrim xs else xs ++ [x]
 | [] => by
  by_cases h : x = 0
  ·
   rw [if_pos h]; simp [rtrim, h]
  ·
   rw [if_neg h]; simp [rtrim, h]
 | y :: ys => by
  have ih := rtrim_snoc x ys
  rw [List.cons_append, rtrim, ih]
  by_cases h : x = 0
  ·
   rw [if_pos h, if_pos h, rtrim]
  ·
   rw [if_neg h, if_neg h, if_neg]
   intro h2
   simp at h2
theorem rtrim_take : ∀ xs : List Rat, rtrim xs = xs.take (rtrim xs).length
 | [] => rfl
 | x :: xs => by
  have ih := rtrim_take xs
  rw [rtrim]
  by_cases h : rtrim xs = [] ∧ x = 0
  ·
   rw [if_pos h]; rfl
  ·
   rw [if_neg h, List.length_cons, List.take_succ_cons, ← ih]
theorem rtrim_len (xs : List Rat) : (rtrim xs).length ≤ xs.length := by
 have h := congrArg List.length (rtrim_take xs)
 rw [List.length_take] at h; omega
theorem mem_rtrim {xs : List Rat} {r : Rat} (h : r ∈ rtrim xs) : r ∈ xs := by
 rw [rtrim_take] at h; exact List.mem_of_mem_take h
theorem pev_set (p : Rat) (xs : List Rat) : ∀ (i : Nat) (v : Rat), i < xs.length → pev (xs.set i v) p = pev xs p + (v - xs.getD i 0) * p ^ i := by
 induction xs with
 | nil => intro i v h; simp at h
 | cons x xs ih =>
  intro i v h
  cases i with
  | zero => simp; grind
  | succ i =>
   have := ih i v (by simpa using h)
   simp only [List.set_cons_succ, pev_cons, this, List.getD_cons_succ, Rat.pow_succ]
   grind
theorem pev_take_succ (p : Rat) (xs : List Rat) : ∀ (i : Nat), i < xs.length → pev (xs.take (i + 1)) p = pev (xs.take i) p + xs.getD i 0 * p ^ i := by
 induction xs with
 | nil => intro i h; simp at h
 | cons x xs ih =>
  intro i h
  cases i with
  | zero => simp; grind
  | succ i =>
   have := ih i (by simpa using h)
   simp only [List.take_succ_cons, pev_cons, this, List.getD_cons_succ, Rat.pow_succ]
   grind
theorem rpow_add (p : Rat) (i : Nat) : ∀ j : Nat, p ^ (i + j) = p ^ i * p ^ j
 | 0 => by simp
 | j + 1 => by rw [← Nat.add_assoc, Rat.pow_succ, rpow_add p i j, Rat.pow_succ]; grind
/-- i entries of A, and j of B with A's entry i, are multiplied -/
def RMulInv (A B o : List Rat) (i j : Nat) : Prop := ∀ p, pev o p = pev (A.take i) p * pev B p + A.getD i 0 * pev (B.take j) p * p ^ i
theorem RMulInv.start (A B : List Rat) (n : Nat) : RMulInv A B (List.replicate n 0) 0 0 := fun p => by
 rw [pev_zeros p _ (fun c hc => List.eq_of_mem_replicate hc)]; simp; grind
theorem RMulInv.step {A B o : List Rat} {i j : Nat} (h : RMulInv A B o i j) (hj : j < B.length) (hl : i + j < o.length) :
  RMulInv A B (o.set (i + j) (o.getD (i + j) 0 + A.getD i 0 * B.getD j 0)) i (j + 1) := fun p => by
 rw [pev_set p o _ _ hl, h p, pev_take_succ p B j hj, rpow_add]
 grind
theorem RMulInv.next {A B o : List Rat} {i : Nat} (h : RMulInv A B o i B.length) (hi : i < A.length) : RMulInv A B o (i + 1) 0 := fun p => by
 rw [h p, pev_take_succ p A i hi, List.take_length, List.take_zero, pev_nil]; grind
theorem RMulInv.last {A B o : List Rat} (h : RMulInv A B o A.length 0) (p : Rat) : pev o p = pev A p * pev B p := by
 rw [h p, List.take_length, List.take_zero, pev_nil]; grind
/-- the powers of (0, 1/c) and of (1, -1) -/
def mono (c : Rat) (i : Nat) : List Rat := List.replicate i 0 ++ [1 / c ^ i]
end Cw
/- Lists of fractions as data, and as rows that are written. -/
namespace Ab
open Go Go.RowKit Cw
set_option linter.unusedVariables false
theorem Fr.cells {c : List D} {r : Rat} {L : Nat} (h : Fr (.agg c) r L) : c.length = 3 ∧ c.all D.one = true := by
 obtain ⟨s, y, z, m, n, e, hy, hz, _⟩ := h
 unfold frac at e
 injection e with e
 subst e
 refine ⟨rfl, ?_⟩
 have h1 := hy.one; have h2 := hz.one
 simp only [List.all_cons, List.all_nil, h1, h2, show (D.bool s).one = true from rfl, Bool.and_self]
/-- three cells for each fraction -/
def Rows (rows : List (List D)) (as : List Rat) (L : Nat) : Prop := rows.length = as.length ∧ ∀ (i : Nat) (c : List D), rows[i]? = some c → Fr (.agg c) (as.getD i 0) L
def Po (x : D) (as : List Rat) (L : Nat) : Prop := ∃ rows, (x = .sl rows.length rows.flatten ∨ (x = .nils ∧ rows = [])) ∧ Rows rows as L
/-- canonical fractions -/
def pD (l : List Rat) : D := .sl l.length (l.map rqC).flatten
theorem Po.le {x : D} {as : List Rat} {L : Nat} (h : Po x as L) : ∃ rows, Le x (.sl rows.length rows.flatten) ∧ Rows rows as L := by
 obtain ⟨rows, h | h, h1⟩ := h
 ·
  exact ⟨rows, h ▸ Le.refl _, h1⟩
 ·
  obtain ⟨rfl, rfl⟩ := h
  exact ⟨[], Le.nil _ rfl, h1⟩
theorem Rows.of {l : List Rat} {s L : Nat} (h : ∀ r ∈ l, Sz r s) (hs : s ≤ 32 * L) : Rows (l.map rqC) l L := by
 refine ⟨by simp, fun i c hc => ?_⟩
 rw [List.getElem?_map, Option.map_eq_some_iff] at hc
 obtain ⟨r, h1, rfl⟩ := hc
 rw [List.getD_eq_getElem?_getD, h1]
 exact Fr.rq (h r (List.mem_of_getElem? h1)) hs
theorem Po.of {l : List Rat} {s L : Nat} (h : ∀ r ∈ l, Sz r s) (hs : s ≤ 32 * L) : Po (pD l) l L :=
 ⟨l.map rqC, .inl (by unfold pD; rw [List.length_map]), Rows.of h hs⟩
theorem Po.nils (L : Nat) : Po .nils [] L := ⟨[], .inr ⟨rfl, rfl⟩, rfl, fun i c h => by simp at h⟩
theorem Po.mono {x : D} {as : List Rat} {L L' : Nat} (h : Po x as L) (hL : L ≤ L') : Po x as L' := by
 obtain ⟨rows, h, h1, h2⟩ := h
 exact ⟨rows, h, h1, fun i c hc => (h2 i c hc).mono hL⟩
theorem Rows.sz {rows : List (List D)} {as : List Rat} {L : Nat} (h : Rows rows as L) : ∀ r ∈ as, Sz r (32 * L + 1) := fun r hr => by
 obtain ⟨i, hi, rfl⟩ := List.mem_iff_getElem.1 hr
 have := h.2 i _ (List.getElem?_eq_getElem (by rw [h.1]; exact hi))
 rw [List.getD_eq_getElem?_getD, List.getElem?_eq_getElem hi] at this
 exact this.sz
theorem Po.sz {x : D} {as : List Rat} {L : Nat} (h : Po x as L) : ∀ r ∈ as, Sz r (32 * L + 1) := by
 obtain ⟨rows, _, h⟩ := h; exact h.sz
/-- rows of three cells -/
def R3 (rows : List (List D)) (n : Nat) : Prop := rows.length = n ∧ ∀ c ∈ rows, c.length = 3 ∧ c.all D.one = true
theorem Rows.r3 {rows : List (List D)} {as : List Rat} {L : Nat} (h : Rows rows as L) : R3 rows as.length := ⟨h.1, fun c hc => by
 obtain ⟨i, hi, rfl⟩ := List.mem_iff_getElem.1 hc
 exact (h.2 i _ (List.getElem?_eq_getElem hi)).cells⟩
theorem R3.rq (l : List Rat) : R3 (l.map rqC) l.length := ⟨by simp, fun c hc => by
 obtain ⟨r, _, rfl⟩ := List.mem_map.1 hc
 exact ⟨rfl, rfl⟩⟩
theorem R3.set {rows : List (List D)} {n : Nat} (h : R3 rows n) (i : Nat) {c : List D} (hc : c.length = 3) (h1 : c.all D.one = true) : R3 (rows.set i c) n :=
 ⟨by rw [List.length_set]; exact h.1, fun d hd => by
  rcases List.mem_or_eq_of_mem_set hd with hd | rfl
  ·
   exact h.2 d hd
  ·
   exact ⟨hc, h1⟩⟩
theorem R3.len {rows : List (List D)} {n : Nat} (h : R3 rows n) : rows.flatten.length = n * 3 := by rw [flat_len rows (fun c hc => (h.2 c hc).1), h.1]
theorem R3.all {rows : List (List D)} {n : Nat} (h : R3 rows n) : rows.flatten.all D.one = true := flat_all fun c hc => (h.2 c hc).2
theorem R3.get {rows : List (List D)} {n : Nat} (h : R3 rows n) {i : Nat} (hi : i < n) : ∃ c, rows[i]? = some c := ⟨_, List.getElem?_eq_getElem (by rw [h.1]; exact hi)⟩
/-- an element that is read -/
theorem R3.at {rows : List (List D)} {n : Nat} (h : R3 rows n) {cells : List D} (hc : cells = rows.flatten) {i off : Nat} {c : List D} (hi : rows[i]? = some c) (ho : off = i * 3) : D.agg ((cells.drop off).take 3) = .agg c := by
 subst hc ho
 rw [flat_at rows i c (fun c hc => (h.2 c hc).1) hi]
theorem R3.fits {rows : List (List D)} {n : Nat} (h : R3 rows n) {cells : List D} (hc : cells = rows.flatten) {i off : Nat} (hi : i < n) (ho : off = i * 3) : off + 3 ≤ cells.length ∧ ((cells.drop off).take 3).all D.one = true := by
 subst hc ho
 refine ⟨by rw [h.len]; omega, ?_⟩
 obtain ⟨c, hc⟩ := h.get hi
 rw [flat_at rows i c (fun c hc => (h.2 c hc).1) hc]
 exact (h.2 c (List.mem_of_getElem? hc)).2
/-- an element that is written -/
theorem R3.put {rows : List (List D)} {n : Nat} (h : R3 rows n) {cells : List D} (hc : cells = rows.flatten) {i off : Nat} (a b c : D) (ho : off = i * 3) : ((cells.set off a).set (off + 1) b).set (off + 1 + 1) c = (rows.set i [a, b, c]).flatten := by
 subst hc ho
 exact flat_set3 a b c rows i (fun c hc => (h.2 c hc).1)
theorem R3.putq {rows : List (List D)} {n : Nat} (h : R3 rows n) {cells : List D} (hc : cells = rows.flatten) {i off : Nat} (v : Rat) (ho : off = i * 3) : ((cells.set off (.bool (rneg v))).set (off + 1) (nat32 (Cw.enc (rnum v)))).set (off + 1 + 1) (nat32 (Cw.enc v.den)) = (rows.set i (rqC v)).flatten := h.put hc _ _ _ ho
theorem R3.ne {rows : List (List D)} {n : Nat} (h : R3 rows n) (hn : 0 < n) : rows.flatten ≠ [] := fun e => by
 have := h.len; rw [e] at this; simp at this; omega
end Ab
namespace Cw
/-- coefficients of a sum -/
def addL (a b : List Rat) : List Rat := (List.range (max a.length b.length)).map fun j => a.getD j 0 + b.getD j 0
theorem getD_sz {l : List Rat} {u : Nat} (h : ∀ r ∈ l, Sz r u) (hu : 1 ≤ u) (j : Nat) : Sz (l.getD j 0) u := by
 rw [List.getD_eq_getElem?_getD]
 cases e : l[j]? with
 | none => exact Sz.zero.mono hu
 | some x => exact h x (List.mem_of_getElem? e)
theorem addL_sz {a b : List Rat} {s t : Nat} (ha : ∀ r ∈ a, Sz r s) (hb : ∀ r ∈ b, Sz r t) (hs : 1 ≤ s) (ht : 1 ≤ t) : ∀ r ∈ addL a b, Sz r (s + t + 1) := fun r hr => by
 obtain ⟨j, _, rfl⟩ := List.mem_map.1 hr
 exact Sz.add (getD_sz ha hs j) (getD_sz hb ht j)
theorem addL_len (a b : List Rat) : (addL a b).length = max a.length b.length := by simp [addL]
theorem addL_nil_left (b : List Rat) : addL [] b = b := by
 refine List.ext_getElem? fun j => ?_
 unfold addL
 rw [List.getElem?_map]
 by_cases hj : j < b.length
 ·
  rw [List.getElem?_range (by simpa using hj), List.getElem?_eq_getElem hj]
  simp [List.getD_eq_getElem?_getD, List.getElem?_eq_getElem hj, Rat.zero_add]
 ·
  rw [List.getElem?_eq_none (by simpa using hj), List.getElem?_eq_none (by omega)]; rfl
theorem addL_cons (x y : Rat) (a b : List Rat) : addL (x :: a) (y :: b) = (x + y) :: addL a b := by
 unfold addL
 rw [show max (x :: a).length (y :: b).length = max a.length b.length + 1 by simp, List.range_succ_eq_map, List.map_cons, List.map_map]
 rfl
theorem addL_comm (a b : List Rat) : addL a b = addL b a := by
 unfold addL
 rw [Nat.max_comm]
 exact List.map_congr_left fun j _ => Rat.add_comm _ _
theorem pev_addL (p : Rat) : ∀ a b : List Rat, pev (addL a b) p = pev a p + pev b p
 | [], b => by rw [addL_nil_left, pev_nil, Rat.zero_add]
 | x :: a, [] => by rw [addL_comm, addL_nil_left, pev_nil, Rat.add_zero]
 | x :: a, y :: b => by rw [addL_cons, pev_cons, pev_cons, pev_cons, pev_addL p a b]; grind
/-- coefficients of a product -/
def mulL : List Rat → List Rat → List Rat
 | [], _ => []
 | x :: a, b => addL (b.map (x * ·)) (0 :: mulL a b)
theorem mulL_len : ∀ a b : List Rat, (mulL a b).length ≤ a.length + b.length
 | [], b => by simp [mulL]
 | x :: a, b => by
  have := mulL_len a b
  rw [mulL, addL_len, List.length_map, List.length_cons, List.length_cons]
  omega
theorem pev_scale (x p : Rat) : ∀ b : List Rat, pev (b.map (x * ·)) p = x * pev b p
 | [] => by simp
 | y :: b => by rw [List.map_cons, pev_cons, pev_cons, pev_scale x p b]; grind
theorem pev_mulL (p : Rat) : ∀ a b : List Rat, pev (mulL a b) p = pev a p * pev b p
 | [], b => by rw [mulL, pev_nil, Rat.zero_mul]
 | x :: a, b => by rw [mulL, pev_addL, pev_scale, pev_cons, pev_cons, pev_mulL p a b]; grind
theorem mulL_sz {b : List Rat} {s t : Nat} (hb : ∀ r ∈ b, Sz r t) : ∀ {a : List Rat}, (∀ r ∈ a, Sz r s) → ∀ r ∈ mulL a b, Sz r (1 + a.length * (s + t + 1))
 | [], _, r, hr => by simp [mulL] at hr
 | x :: a, ha, r, hr => by
  have ih := mulL_sz hb (a := a) (fun r hr => ha r (by simp [hr]))
  rw [mulL] at hr
  have h1 : ∀ r ∈ b.map (x * ·), Sz r (s + t + 1) := fun r hr => by
   obtain ⟨y, hy, rfl⟩ := List.mem_map.1 hr
   exact (Sz.mul (ha x (by simp)) (hb y hy)).mono (by omega)
  have h2 : ∀ r ∈ (0 : Rat) :: mulL a b, Sz r (1 + a.length * (s + t + 1)) := fun r hr => by
   rcases List.mem_cons.1 hr with rfl | hr
   ·
    exact Sz.zero.mono (by omega)
   ·
    exact ih r hr
  refine ((addL_sz (s := s + t) (fun r hr => ?_) h2 ?_ (by omega) r hr)).mono (by rw [List.length_cons, Nat.succ_mul]; omega)
  ·
   obtain ⟨y, hy, rfl⟩ := List.mem_map.1 hr
   exact Sz.mul (ha x (by simp)) (hb y hy)
  ·
   have := (ha x (by simp)).2
   have hp := x.den_nz
   cases s with
   | zero => simp at this; omega
   | succ s => omega
theorem rtrim_sz {l : List Rat} {s : Nat} (h : ∀ r ∈ l, Sz r s) : ∀ r ∈ rtrim l, Sz r s := fun r hr => h r (mem_rtrim hr)
end Cw
/- Arguments of a statement, opened as data. -/
namespace Ab
open Go Go.ChangeShapes Go.WideShapes Go.RowKit Go.Deep
set_option linter.unusedVariables false
section
variable {H : Type} {enc : TypeId × Value → H} {P : Program} {w : World} {base : Nat} {held : Bool}
def lt (w : World) (k : Nat) : Prop := k < w.heap.size
/-- cells read as data -/
def RDs (w : World) (ds : List D) (cs : List Value) : Prop := ds.length = cs.length ∧ ∀ (i : Nat) (d : D) (v : Value), ds[i]? = some d → cs[i]? = some v → RD w (lt w) d v ∧ d.one = true
theorem RDs.nil : RDs w [] [] := ⟨rfl, fun i d v h => by simp at h⟩
theorem RDs.one {d : D} {v : Value} (h : RD w (lt w) d v) (h1 : d.one = true) : RDs w [d] [v] := ⟨rfl, fun i x u hx hu => by
 cases i with
 | zero => simp at hx hu; subst hx hu; exact ⟨h, h1⟩
 | succ i => simp at hx⟩
theorem RDs.append {a b : List D} {c d : List Value} (h : RDs w a c) (k : RDs w b d) : RDs w (a ++ b) (c ++ d) := by
 refine ⟨by simp [h.1, k.1], fun i x u hx hu => ?_⟩
 rw [List.getElem?_append] at hx hu
 rw [← h.1] at hu
 by_cases hi : i < a.length
 ·
  rw [if_pos hi] at hx hu; exact h.2 i x u hx hu
 ·
  rw [if_neg hi] at hx hu; exact k.2 _ x u hx hu
/-- cells of type t that are read whole read as f of something that is well-formed -/
def OpD {H : Type} (enc : TypeId × Value → H) (P : Program) (w : World) (base : Nat) (held : Bool) (t : TypeId) {α : Type} (f : α → List D) (wf : α → Prop) : Prop :=
 ∀ (fuel : Nat) (cs : List Value) (x : DataW H × List MemPlace), DataW.trod enc P w base (fun _ => true) held fuel t cs = some x → ∃ a, RDs w (f a) cs ∧ wf a
theorem opd_int {t : TypeId} {k : IntKind} (ht : P.underlying t = some (.int k)) : OpD enc P w base held t (fun n => [D.int k n]) (fun n => (Lit.int k n).wf = true) := by
 intro fuel cs x h
 cases fuel with
 | zero => simp [DataW.trod] at h
 | succ fuel =>
  unfold DataW.trod at h
  rw [ht] at h
  split at h <;> simp_all
  exact ⟨_, RDs.one (.int _ _) rfl, h.1.2⟩
theorem opd_bool {t : TypeId} (ht : P.underlying t = some .bool) : OpD enc P w base held t (fun b => [D.bool b]) (fun _ => True) := by
 intro fuel cs x h
 cases fuel with
 | zero => simp [DataW.trod] at h
 | succ fuel =>
  unfold DataW.trod at h
  rw [ht] at h
  split at h <;> simp_all
  rename_i b
  cases b
  ·
   exact .inl (RDs.one (.bool _) rfl)
  ·
   exact .inr (RDs.one (.bool _) rfl)
/-- a row's data -/
def slD {α : Type} (f : α → List D) (l : List α) : D := .sl l.length (l.map f).flatten
theorem opd_slice {t e : TypeId} {α : Type} [Inhabited α] {f : α → List D} {z : Nat} {wf : α → Prop} (ht : P.underlying t = some (.slice e)) (hc : P.cellsOf e = z) (hf : ∀ a, (f a).length = z) (hd : OpD enc P w base held e f wf) :
  OpD enc P w base held t (fun l => [slD f l]) (fun l => ∀ x ∈ l, wf x) := by
 intro fuel cs x h
 rcases open_slice ht h with ⟨rfl, rfl⟩ | ⟨a, len, cap, m, n, Dd, Pl, rfl, hb, hl, hm, hmm, rfl, hx⟩
 ·
  exact ⟨[], RDs.one (Le.nil _ rfl _ _ _ .nils) rfl, fun x hx => by simp at hx⟩
 ·
  simp only [if_true] at hmm
  have each : ∀ i, i < len → ∃ y : α × List Value, RDs w (f y.1) y.2 ∧ wf y.1 ∧ ∀ j u, y.2[j]? = some u → w.cell? (a.add (i * z + j)) = some u := by
   intro i hi
   obtain ⟨cs', h1, h2⟩ := hx i (by omega)
   obtain ⟨y, h3, h4⟩ := hd n cs' _ h2
   obtain ⟨_, h5, h6⟩ := World.cells?_some h1
   rw [hc] at h5 h6
   refine ⟨(y, cs'), h3, h4, fun j u hu => ?_⟩
   have hj : j < z := by
    rw [← h5]
    exact (List.getElem?_eq_some_iff.1 hu).1
   have := h6 j hj
   rw [Deep.add_add] at this
   rw [this]; exact hu
  obtain ⟨g, hg⟩ := choose_lt each
  have hlen : ((List.range len).map fun i => (g i).1).length = len := by simp
  have hrows : ∀ c ∈ ((List.range len).map fun i => (g i).1).map f, c.length = z := fun c hc => by
   obtain ⟨y, _, rfl⟩ := List.mem_map.1 hc
   exact hf y
  refine ⟨(List.range len).map fun i => (g i).1, RDs.one ?_ rfl, fun y hy => ?_⟩
  ·
   unfold slD
   rw [hlen]
   have hfl : (((List.range len).map fun i => (g i).1).map f).flatten.length = len * z := by rw [flat_len _ hrows]; simp
   -- cell p = i z + j
   have key : ∀ p, p < len * z → ∃ u d, w.cell? (a.add p) = some u ∧ (((List.range len).map fun i => (g i).1).map f).flatten[p]? = some d ∧ RD w (lt w) d u := fun p hp => by
    have hz : 0 < z := by
     rcases Nat.eq_zero_or_pos z with h0 | h0
     ·
      rw [h0] at hp; simp at hp
     ·
      exact h0
    have hi : p / z < len := Nat.div_lt_of_lt_mul (by rw [Nat.mul_comm]; exact hp)
    have hj : p % z < z := Nat.mod_lt _ hz
    have hpe : p / z * z + p % z = p := by rw [Nat.mul_comm]; exact Nat.div_add_mod p z
    obtain ⟨h1, h2, h3⟩ := hg (p / z) hi
    have hfl2 := hf (g (p / z)).1
    have hjd : p % z < (f (g (p / z)).1).length := by omega
    have hjc : p % z < (g (p / z)).2.length := by rw [← h1.1]; exact hjd
    refine ⟨(g (p / z)).2[p % z], (f (g (p / z)).1)[p % z], ?_, ?_, ?_⟩
    ·
     have := h3 (p % z) _ (List.getElem?_eq_getElem hjc)
     rwa [hpe] at this
    ·
     have h4 := flat_at _ (p / z) (f (g (p / z)).1) hrows (by simp [hi])
     have h5 : ((((List.range len).map fun i => (g i).1).map f).flatten.drop (p / z * z))[p % z]? = (f (g (p / z)).1)[p % z]? := by
      rw [← h4, List.getElem?_take, if_pos hj]
     rw [List.getElem?_drop, hpe] at h5
     rw [h5, List.getElem?_eq_getElem hjd]
    ·
     exact (h1.2 _ _ _ (List.getElem?_eq_getElem hjd) (List.getElem?_eq_getElem hjc)).1
   have key' : ∀ p, ∃ u : Value, p < len * z → ∃ d, w.cell? (a.add p) = some u ∧ (((List.range len).map fun i => (g i).1).map f).flatten[p]? = some d ∧ RD w (lt w) d u := fun p => by
    by_cases hp : p < len * z
    ·
     obtain ⟨u, d, h⟩ := key p hp; exact ⟨u, fun _ => ⟨d, h⟩⟩
    ·
     exact ⟨undef, fun h => absurd h hp⟩
   obtain ⟨u, hu⟩ : ∃ u : Nat → Value, ∀ p, p < len * z → ∃ d, w.cell? (a.add p) = some (u p) ∧ (((List.range len).map fun i => (g i).1).map f).flatten[p]? = some d ∧ RD w (lt w) d (u p) := ⟨fun p => Classical.choose (key' p), fun p => Classical.choose_spec (key' p)⟩
   refine .sl len _ (some a) cap u hl (fun hne => ⟨a, rfl, ?_, fun p hp => ?_⟩) (fun p d hp => ?_)
   ·
    have h0 : 0 < len * z := by rw [← hfl]; exact List.length_pos_iff.2 hne
    obtain ⟨d, h1, _⟩ := hu 0 h0
    have := World.block_lt_of_cell? w _ h1
    rwa [add_block] at this
   ·
    rw [hfl] at hp
    obtain ⟨d, h1, _⟩ := hu p hp
    exact h1
   ·
    have hp' : p < len * z := by rw [← hfl]; exact (List.getElem?_eq_some_iff.1 hp).1
    obtain ⟨d', _, h2, h3⟩ := hu p hp'
    rw [h2] at hp
    injection hp with hp
    rw [← hp]; exact h3
  ·
   obtain ⟨i, hi, rfl⟩ := List.mem_map.1 hy
   exact (hg i (List.mem_range.1 hi)).2.1
/-- a struct of three fields of one cell each -/
theorem opd_struct3 {t : TypeId} {f0 f1 f2 : Field} {α β γ : Type} {g0 : α → List D} {g1 : β → List D} {g2 : γ → List D} {w0 : α → Prop} {w1 : β → Prop} {w2 : γ → Prop} (hs : P.underlying t = some (.struct #[f0, f1, f2])) (hone : oneCellFields P #[f0, f1, f2] = true) (hC : P.cellsOf t = 3)
  (o0 : OpD enc P w base held f0.type g0 w0) (o1 : OpD enc P w base held f1.type g1 w1) (o2 : OpD enc P w base held f2.type g2 w2) : OpD enc P w base held t (fun (x : α × β × γ) => g0 x.1 ++ (g1 x.2.1 ++ g2 x.2.2)) (fun x => w0 x.1 ∧ w1 x.2.1 ∧ w2 x.2.2) := by
 intro fuel cs x h
 obtain ⟨y0, y1, y2, n, hx, hl, h0, h1, h2⟩ := trod_struct3 hs h
 rw [hC] at hl
 match cs, hl with
 | [c0, c1, c2], _ =>
  obtain ⟨p0, k0⟩ := hone_of hone 0 f0 rfl
  obtain ⟨p1, k1⟩ := hone_of hone 1 f1 rfl
  obtain ⟨p2, k2⟩ := hone_of hone 2 f2 rfl
  rw [p0, k0] at h0; rw [p1, k1] at h1; rw [p2, k2] at h2
  obtain ⟨a, ha, wa⟩ := o0 n _ _ h0
  obtain ⟨b, hb, wb⟩ := o1 n _ _ h1
  obtain ⟨c, hc, wc⟩ := o2 n _ _ h2
  exact ⟨(a, b, c), RDs.append ha (RDs.append hb hc), wa, wb, wc⟩
/-- a value of one cell -/
theorem opd_one {t : TypeId} {α : Type} {f : α → D} {wf : α → Prop} {v : Value} {d : DataW H} {p : List MemPlace} (o : OpD enc P w base held t (fun a => [f a]) wf) (hv : v.cells = #[v]) (h : DataW.Trod enc P w base (fun _ => true) held t v d p) : ∃ a, RD w (lt w) (f a) v ∧ wf a := by
 obtain ⟨fuel, hf⟩ := h
 rw [hv] at hf
 obtain ⟨a, ha, wa⟩ := o fuel _ _ hf
 exact ⟨a, (ha.2 0 _ v rfl rfl).1, wa⟩
/-- a struct -/
theorem opd_agg {t : TypeId} {fs : Array Field} {r : Reach} {b0 : Nat} {α : Type} {f : α → List D} {wf : α → Prop} {v : Value} {d : DataW H} {p : List MemPlace} (hs : P.underlying t = some (.struct fs)) (hv : Value.okWide P w r b0 t v) (o : OpD enc P w base held t f wf) (h : DataW.Trod enc P w base (fun _ => true) held t v d p) : ∃ a, RD w (lt w) (.agg (f a)) v ∧ wf a := by
 obtain ⟨cs, rfl, hsz⟩ := okWide_struct hs hv
 obtain ⟨fuel, hf⟩ := h
 obtain ⟨a, ha, wa⟩ := o fuel _ _ hf
 have e : (Value.agg cs).cells.toList = cs.toList := rfl
 rw [e] at ha
 have hl : cs.size = (f a).length := by rw [ha.1]; simp
 refine ⟨a, .agg _ cs (fun i => cs.getD i undef) hl (fun i hi => ?_) (fun i x hx => ?_) (fun x hx => ?_), wa⟩
 ·
  rw [Array.getD_eq_getD_getElem?, Array.getElem?_eq_getElem (by omega)]; rfl
 ·
  have hi := (List.getElem?_eq_some_iff.1 hx).1
  refine (ha.2 i x _ hx ?_).1
  rw [Array.getD_eq_getD_getElem?, Array.getElem?_eq_getElem (by omega), Array.getElem?_toList, Array.getElem?_eq_getElem (by omega)]; rfl
 ·
  obtain ⟨i, hi, rfl⟩ := List.mem_iff_getElem.1 hx
  exact (ha.2 i _ cs[i] (List.getElem?_eq_getElem hi) (by rw [Array.getElem?_toList]; exact Array.getElem?_eq_getElem (by omega))).2
/-- how long a row among the arguments is -/
theorem sized_len {t e : TypeId} {n cap : Nat} {A : Option Addr} {d : DataW H} {p : List MemPlace} {ts : List TypeId} {ds : List (DataW H)} {j : Nat} (hsz : (DataW.weightsEach P ts ds).all (· ≤ reachBytes) = true) (ht : ts[j]? = some t) (hd : ds[j]? = some d) (hu : P.underlying t = some (.slice e))
  (h : DataW.Trod enc P w base (fun _ => true) held t (.slice A n cap) d p) : n * P.bytesOf e ≤ 140737488351232 := by
 obtain ⟨fuel, hf⟩ := h
 rcases open_slice hu hf with ⟨hcs, hx⟩ | ⟨a, len, cap', m, k, Dd, Pl, hcs, hb, hl, hm, hmm, hx, _⟩
 ·
  simp [Value.cells] at hcs
  obtain ⟨_, rfl, _⟩ := hcs
  simp
 ·
  simp [Value.cells] at hcs
  obtain ⟨_, rfl, _⟩ := hcs
  obtain ⟨hx, _⟩ := Prod.mk.inj hx
  subst hx
  have z := sized_slice hsz ht hd hu
  refine Nat.le_trans (Nat.mul_le_mul_right _ ?_) z
  simp
end
theorem slD_int (k : IntKind) (l : List Int) : slD (fun n => [D.int k n]) l = .sl l.length (l.map (.int k)) := by
 unfold slD
 congr 1
 induction l with
 | nil => rfl
 | cons x l ih => simpa using ih
theorem rd_isBool {w : World} {ok : Nat → Prop} {b : Bool} {v : Value} (h : RD w ok (.bool b) v) : v = .bool b := by cases h; rfl
/-- values that read as data, one by one -/
inductive RDl (w : World) (ok : Nat → Prop) : List D → List Value → Prop
 | nil : RDl w ok [] []
 | cons {d : D} {v : Value} {ds : List D} {vs : List Value} (h : RD w ok d v) (k : RDl w ok ds vs) : RDl w ok (d :: ds) (v :: vs)
theorem RDl.get {w : World} {ok : Nat → Prop} {ds : List D} {vs : List Value} (h : RDl w ok ds vs) : vs.length = ds.length ∧ ∀ (i : Nat) (x : D), ds[i]? = some x → ∃ v, vs[i]? = some v ∧ RD w ok x v := by
 induction h with
 | nil => exact ⟨rfl, fun i x h => by simp at h⟩
 | cons h k ih =>
  refine ⟨by simp [ih.1], fun i x hx => ?_⟩
  cases i with
  | zero => simp at hx; subst hx; exact ⟨_, rfl, h⟩
  | succ i => exact ih.2 i x (by simpa using hx)
theorem Spec.calls {P : Program} {f : FuncId} {args : List D} {r : D} {w : World} {vs : List Value} (h : Ab.Spec P f args r) (k : RDl w (lt w) args vs) :
  Calls P f vs.toArray w fun e w' => Below w.heap.size w w' ∧ ∃ v, e = .returned v ∧ RD w' (fun k => k < w'.heap.size ∧ (k < w.heap.size → lt w k)) r v :=
 h.2 w vs.toArray (lt w) (by simpa using k.get.1) (fun i x hx => by simpa using k.get.2 i x hx) (fun k h => h)
end Ab
