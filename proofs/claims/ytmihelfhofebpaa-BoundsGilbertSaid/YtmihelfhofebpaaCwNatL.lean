/- Lists of limbs in base 2^32, and the numbers that they stand for. -/
import Derived.Test.YtmihelfhofebpaaCwPolyZ
namespace Cw

theorem ev_set (B : Int) (xs : List Int) : ∀ (i : Nat) (v : Int), i < xs.length → ev (xs.set i v) B = ev xs B + (v - xs.getD i 0) * B ^ i := by
  induction xs with
  | nil => intro i v h; simp at h
  | cons x xs ih =>
    intro i v h
    cases i with
    | zero => simp; omega
    | succ i =>
      have := ih i v (by simpa using h)
      simp only [List.set_cons_succ, ev_cons, this, List.getD_cons_succ, Int.pow_succ]
      grind

theorem ev_take_succ (B : Int) (xs : List Int) : ∀ (i : Nat), i < xs.length → ev (xs.take (i + 1)) B = ev (xs.take i) B + xs.getD i 0 * B ^ i := by
  induction xs with
  | nil => intro i h; simp at h
  | cons x xs ih =>
    intro i h
    cases i with
    | zero => simp
    | succ i =>
      have := ih i (by simpa using h)
      simp only [List.take_succ_cons, ev_cons, this, List.getD_cons_succ, Int.pow_succ]
      grind

theorem ev_take_succ' (B : Int) (xs : List Int) (i : Nat) : ev (xs.take (i + 1)) B = ev (xs.take i) B + xs.getD i 0 * B ^ i := by
  by_cases h : i < xs.length
  · exact ev_take_succ B xs i h
  · rw [List.take_of_length_le (by omega), List.take_of_length_le (by omega), getD_none' xs i (by omega)]; simp

/-- i limbs of a and b are added; c is carried -/
def PlusInv (a b out : List Int) (c : Int) (i : Nat) : Prop :=
  ev out 4294967296 + c * 4294967296 ^ i = ev (a.take i) 4294967296 + ev (b.take i) 4294967296
theorem PlusInv.step {a b out : List Int} {c : Int} {i : Nat} (h : PlusInv a b out c i) (hi : i < out.length) (hz : out.getD i 0 = 0) :
    PlusInv a b (out.set i ((a.getD i 0 + c + b.getD i 0) % 4294967296)) ((a.getD i 0 + c + b.getD i 0) / 4294967296) (i + 1) := by
  unfold PlusInv at *
  rw [ev_set _ _ _ _ hi, hz, ev_take_succ', ev_take_succ', Int.pow_succ]
  have e1 := Int.emod_add_mul_ediv (a.getD i 0 + c + b.getD i 0) 4294967296
  generalize (4294967296 : Int) ^ i = P at *
  generalize ev out 4294967296 = E at *
  generalize (a.getD i 0 + c + b.getD i 0) % 4294967296 = r at *
  generalize (a.getD i 0 + c + b.getD i 0) / 4294967296 = q at *
  have e2 : r = a.getD i 0 + c + b.getD i 0 - 4294967296 * q := by omega
  rw [e2]
  grind
theorem PlusInv.start (a b : List Int) (n : Nat) : PlusInv a b (List.replicate n 0) 0 0 := by
  unfold PlusInv; rw [ev_replicate_zero]; simp
theorem PlusInv.last {a b out : List Int} {c : Int} {i : Nat} (h : PlusInv a b out c i) (ha : a.length ≤ i) (hb : b.length ≤ i) (hi : i < out.length) (hz : out.getD i 0 = 0) :
    ev (out.set i c) 4294967296 = ev a 4294967296 + ev b 4294967296 := by
  unfold PlusInv at h
  rw [List.take_of_length_le ha, List.take_of_length_le hb] at h
  rw [ev_set _ _ _ _ hi, hz, ← h]
  have : (c - 0) = c := by omega
  rw [this]

/-- a.take i is multiplied, and a[i] with j limbs of b; c is carried -/
def TimesInv (a b out : List Int) (c : Int) (i j : Nat) : Prop :=
  ev out 4294967296 + c * 4294967296 ^ (i + j) = ev (a.take i) 4294967296 * ev b 4294967296 + a.getD i 0 * ev (b.take j) 4294967296 * 4294967296 ^ i
theorem TimesInv.step {a b out : List Int} {c : Int} {i j : Nat} (h : TimesInv a b out c i j) (hi : i + j < out.length) :
    TimesInv a b (out.set (i + j) ((a.getD i 0 * b.getD j 0 + out.getD (i + j) 0 + c) % 4294967296)) ((a.getD i 0 * b.getD j 0 + out.getD (i + j) 0 + c) / 4294967296) i (j + 1) := by
  unfold TimesInv at *
  rw [ev_set _ _ _ _ hi, ev_take_succ' _ b, ← Nat.add_assoc, Int.pow_succ]
  have e1 := Int.emod_add_mul_ediv (a.getD i 0 * b.getD j 0 + out.getD (i + j) 0 + c) 4294967296
  generalize (a.getD i 0 * b.getD j 0 + out.getD (i + j) 0 + c) % 4294967296 = r at *
  generalize (a.getD i 0 * b.getD j 0 + out.getD (i + j) 0 + c) / 4294967296 = q at *
  rw [Int.pow_add] at *
  generalize (4294967296 : Int) ^ i = P at *
  generalize (4294967296 : Int) ^ j = Q at *
  generalize ev out 4294967296 = E at *
  generalize ev (b.take j) 4294967296 = F at *
  generalize ev (a.take i) 4294967296 * ev b 4294967296 = G at *
  grind
theorem TimesInv.next {a b out : List Int} {c : Int} {i : Nat} (h : TimesInv a b out c i b.length) (hi : i + b.length < out.length) (hz : out.getD (i + b.length) 0 = 0) :
    TimesInv a b (out.set (i + b.length) c) 0 (i + 1) 0 := by
  unfold TimesInv at *
  rw [ev_set _ _ _ _ hi, hz, ev_take_succ' _ a]
  rw [List.take_length] at h
  simp only [List.take_zero, ev_nil, Int.mul_zero, Int.zero_mul, Int.add_zero, Int.add_mul, Int.sub_zero]
  rw [h, Int.mul_right_comm]
theorem TimesInv.start (a b : List Int) (n : Nat) : TimesInv a b (List.replicate n 0) 0 0 0 := by
  unfold TimesInv; rw [ev_replicate_zero]; simp
theorem TimesInv.last {a b out : List Int} {i : Nat} (h : TimesInv a b out 0 i 0) (hi : a.length ≤ i) : ev out 4294967296 = ev a 4294967296 * ev b 4294967296 := by
  unfold TimesInv at h
  rw [List.take_of_length_le hi] at h
  simpa using h

/-- a is divided by d from the top down to index i; r is the rest -/
def DigInv (a : List Int) (d : Int) (out : List Int) (r : Int) (i : Nat) : Prop :=
  ev out 4294967296 * d + r * 4294967296 ^ i + ev (a.take i) 4294967296 = ev a 4294967296
theorem DigInv.step {a out : List Int} {d r : Int} {i : Nat} (h : DigInv a d out r (i + 1)) (hi : i < out.length) (hz : out.getD i 0 = 0) :
    DigInv a d (out.set i ((r * 4294967296 + a.getD i 0) / d)) ((r * 4294967296 + a.getD i 0) % d) i := by
  unfold DigInv at *
  rw [ev_set _ _ _ _ hi, hz]
  rw [ev_take_succ', Int.pow_succ] at h
  have e1 := Int.emod_add_mul_ediv (r * 4294967296 + a.getD i 0) d
  generalize (r * 4294967296 + a.getD i 0) % d = r' at *
  generalize (r * 4294967296 + a.getD i 0) / d = q at *
  generalize (4294967296 : Int) ^ i = P at *
  rw [← h]
  grind
theorem DigInv.start (a : List Int) (d : Int) (n : Nat) : DigInv a d (List.replicate n 0) 0 a.length := by
  unfold DigInv; rw [ev_replicate_zero]; simp
theorem DigInv.last {a out : List Int} {d r : Int} (h : DigInv a d out r 0) : ev out 4294967296 * d + r = ev a 4294967296 := by
  unfold DigInv at h; simpa using h
theorem dig_small {r d x : Int} (hr : 0 ≤ r ∧ r < d) (hx : 0 ≤ x ∧ x < 4294967296) (hd : 0 < d) : 0 ≤ (r * 4294967296 + x) / d ∧ (r * 4294967296 + x) / d < 4294967296 := by
  refine ⟨Int.ediv_nonneg (by omega) (by omega), Int.ediv_lt_of_lt_mul hd ?_⟩
  have : (r + 1) * 4294967296 ≤ d * 4294967296 := Int.mul_le_mul_of_nonneg_right (by omega) (by omega)
  rw [Int.mul_comm 4294967296 d]; omega

/-- limbs: each from 0 to 2^32 - 1 -/
def Lim (xs : List Int) : Prop := ∀ c ∈ xs, 0 ≤ c ∧ c < 4294967296
/-- xs are limbs that stand for n -/
def Is (xs : List Int) (n : Nat) : Prop := Lim xs ∧ ev xs 4294967296 = (n : Int)

theorem Lim.nil : Lim [] := fun c h => by simp at h
theorem Lim.getD {xs : List Int} (h : Lim xs) (i : Nat) : 0 ≤ xs.getD i 0 ∧ xs.getD i 0 < 4294967296 := by
  by_cases hi : i < xs.length
  · rw [List.getD_eq_getElem?_getD, List.getElem?_eq_getElem hi]
    exact h _ (List.getElem_mem hi)
  · rw [getD_none' xs i (by omega)]; omega
theorem Lim.set {xs : List Int} (h : Lim xs) (i : Nat) {v : Int} (h0 : 0 ≤ v) (h1 : v < 4294967296) : Lim (xs.set i v) := by
  intro c hc
  rcases List.mem_or_eq_of_mem_set hc with h' | h'
  · exact h c h'
  · rw [h']; exact ⟨h0, h1⟩
theorem Lim.cons {x : Int} {xs : List Int} (h0 : 0 ≤ x) (h1 : x < 4294967296) (h : Lim xs) : Lim (x :: xs) := by
  intro c hc
  rcases List.mem_cons.1 hc with h' | h'
  · rw [h']; exact ⟨h0, h1⟩
  · exact h c h'
theorem Lim.tail {x : Int} {xs : List Int} (h : Lim (x :: xs)) : Lim xs := fun c hc => h c (by simp [hc])
theorem Lim.head {x : Int} {xs : List Int} (h : Lim (x :: xs)) : 0 ≤ x ∧ x < 4294967296 := h x (by simp)
theorem Lim.append {a b : List Int} (h : Lim a) (k : Lim b) : Lim (a ++ b) := by
  intro c hc
  rcases List.mem_append.1 hc with h' | h'
  · exact h c h'
  · exact k c h'
theorem Lim.zeros (n : Nat) : Lim (List.replicate n 0) := by
  intro c hc
  rw [List.eq_of_mem_replicate hc]; omega
theorem Lim.take {xs : List Int} (h : Lim xs) (n : Nat) : Lim (xs.take n) := fun c hc => h c (List.mem_of_mem_take hc)
theorem Lim.drop {xs : List Int} (h : Lim xs) (n : Nat) : Lim (xs.drop n) := fun c hc => h c (List.mem_of_mem_drop hc)
theorem Lim.nonneg {xs : List Int} (h : Lim xs) : 0 ≤ ev xs 4294967296 := by
  induction xs with
  | nil => simp
  | cons x xs ih => rw [ev_cons]; have := ih h.tail; have := h.head; omega
theorem Lim.lt {xs : List Int} (h : Lim xs) : ev xs 4294967296 < 4294967296 ^ xs.length := by
  induction xs with
  | nil => simp
  | cons x xs ih => rw [ev_cons, List.length_cons, Int.pow_succ]; have := ih h.tail; have := h.head; omega
theorem Lim.is {xs : List Int} (h : Lim xs) : Is xs (ev xs 4294967296).toNat := ⟨h, by have := h.nonneg; omega⟩

theorem Is.nil : Is [] 0 := ⟨Lim.nil, rfl⟩
theorem Is.cons {c : Int} {xs : List Int} {n : Nat} (h0 : 0 ≤ c) (h1 : c < 4294967296) (h : Is xs n) : Is (c :: xs) (c.toNat + 4294967296 * n) :=
  ⟨Lim.cons h0 h1 h.1, by rw [ev_cons, h.2]; omega⟩
theorem Is.uniq {xs : List Int} {m n : Nat} (h : Is xs m) (k : Is xs n) : m = n := by
  have := h.2.symm.trans k.2; omega

/-- the limbs of n, without zeros at the end -/
def enc (n : Nat) : List Int :=
  if n = 0 then [] else ((n % 4294967296 : Nat) : Int) :: enc (n / 4294967296)
termination_by n
decreasing_by omega

theorem enc_zero : enc 0 = [] := by rw [enc]; rfl
theorem enc_pos {n : Nat} (h : n ≠ 0) : enc n = ((n % 4294967296 : Nat) : Int) :: enc (n / 4294967296) := by rw [enc, if_neg h]
theorem enc_is (n : Nat) : Is (enc n) n := by
  induction n using Nat.strongRecOn with
  | ind n ih =>
    by_cases h : n = 0
    · subst h; rw [enc_zero]; exact Is.nil
    · rw [enc_pos h]
      have := Is.cons (c := ((n % 4294967296 : Nat) : Int)) (by omega) (by omega) (ih (n / 4294967296) (by omega))
      have e : ((n % 4294967296 : Nat) : Int).toNat + 4294967296 * (n / 4294967296) = n := by omega
      rwa [e] at this
theorem enc_lim (n : Nat) : Lim (enc n) := (enc_is n).1
theorem enc_ne {n : Nat} (h : n ≠ 0) : enc n ≠ [] := by rw [enc_pos h]; simp
theorem enc_eq_nil {n : Nat} : enc n = [] ↔ n = 0 := ⟨fun h => Classical.byContradiction fun k => enc_ne k h, fun h => by rw [h, enc_zero]⟩

/-- limbs that do not end with 0 are the limbs of their number -/
theorem eq_enc {xs : List Int} : ∀ {n : Nat}, Is xs n → xs.getLast? ≠ some 0 → xs = enc n := by
  induction xs with
  | nil =>
    intro n h _
    have h1 : (0 : Int) = n := h.2
    have : n = 0 := by omega
    rw [this, enc_zero]
  | cons c xs ih =>
    intro n h hl
    have hx := h.1.tail.is
    have hc := h.1.head
    have hn := h.2
    rw [ev_cons, hx.2] at hn
    have e2 : xs.getLast? ≠ some 0 := by
      intro h'
      rcases List.eq_nil_or_concat xs with h1 | ⟨l, x, h1⟩
      · rw [h1] at h'; simp at h'
      · rw [h1] at h' hl
        rw [List.concat_eq_append] at h' hl
        have h4 : ((c :: l) ++ [x]).getLast? = some x := List.getLast?_concat
        have h5 : (l ++ [x]).getLast? = some x := by simp
        rw [← List.cons_append, h4] at hl; rw [h5] at h'
        exact hl h'
    have ih' := ih hx e2
    generalize (ev xs 4294967296).toNat = m at *
    have h3 : n ≠ 0 := by
      intro h0
      have hm : m = 0 := by omega
      rw [hm, enc_zero] at ih'
      rw [ih'] at hl
      have : c = 0 := by omega
      rw [this] at hl; simp at hl
    rw [enc_pos h3, show n % 4294967296 = c.toNat by omega, show n / 4294967296 = m by omega, ← ih']
    have : ((c.toNat : Nat) : Int) = c := by omega
    rw [this]

theorem enc_last (n : Nat) : (enc n).getLast? ≠ some 0 := by
  induction n using Nat.strongRecOn with
  | ind n ih =>
    by_cases h : n = 0
    · rw [h, enc_zero]; simp
    · rw [enc_pos h]
      by_cases h1 : n / 4294967296 = 0
      · rw [h1, enc_zero]; simp; omega
      · have := ih (n / 4294967296) (by omega)
        rw [List.getLast?_cons]
        intro h2
        rcases h3 : (enc (n / 4294967296)).getLast? with _ | z
        · rw [List.getLast?_eq_none_iff] at h3; exact enc_ne h1 h3
        · rw [h3] at h2 this; simp at h2 this; exact this h2

theorem enc_inj {m n : Nat} (h : enc m = enc n) : m = n := (enc_is m).uniq (h ▸ enc_is n)

theorem enc_length_le (L : Nat) : ∀ {n : Nat}, n < 4294967296 ^ L → (enc n).length ≤ L := by
  induction L with
  | zero => intro n h; have : n = 0 := by simpa using h
            rw [this, enc_zero]; simp
  | succ L ih =>
    intro n h
    by_cases h0 : n = 0
    · rw [h0, enc_zero]; simp
    · rw [enc_pos h0, List.length_cons]
      have := ih (n := n / 4294967296) (by rw [Nat.pow_succ] at h; exact Nat.div_lt_of_lt_mul (by rw [Nat.mul_comm]; exact h))
      omega
theorem nat_lt_pow {n L : Nat} (h : (n : Int) < 4294967296 ^ L) : n < 4294967296 ^ L := by
  apply Int.ofNat_lt.1
  rw [Int.natCast_pow]
  exact h
theorem two_pow_lt {a L : Nat} (h : a < 32 * L) : 2 ^ a < 4294967296 ^ L := by
  rw [show (4294967296 : Nat) = 2 ^ 32 by rfl, ← Nat.pow_mul]
  exact Nat.pow_lt_pow_right (by omega) h
theorem lt_of_enc_length {L n : Nat} (h : (enc n).length ≤ L) : n < 4294967296 ^ L := by
  have h1 := (enc_lim n).lt
  rw [(enc_is n).2] at h1
  have h2 : n < 4294967296 ^ (enc n).length := nat_lt_pow h1
  exact Nat.lt_of_lt_of_le h2 (Nat.pow_le_pow_right (by omega) h)
theorem Is.lt {xs : List Int} {n : Nat} (h : Is xs n) : n < 4294967296 ^ xs.length := by
  have h1 := h.1.lt
  rw [h.2] at h1
  exact nat_lt_pow h1
theorem Is.enc_length {xs : List Int} {n : Nat} (h : Is xs n) : (enc n).length ≤ xs.length := enc_length_le _ h.lt

theorem ev_drop_zeros (B : Int) (xs : List Int) (m : Nat) (h : ∀ i, m ≤ i → i < xs.length → xs.getD i 0 = 0) : ev (xs.take m) B = ev xs B := by
  have e : xs = xs.take m ++ xs.drop m := (List.take_append_drop m xs).symm
  rw [show ev xs B = ev (xs.take m ++ xs.drop m) B by rw [← e], ev_append, ev_zeros (xs.drop m)]
  · simp
  · intro c hc
    obtain ⟨i, hi, rfl⟩ := List.mem_iff_getElem.1 hc
    rw [List.length_drop] at hi
    have := h (m + i) (by omega) (by omega)
    rw [List.getD_eq_getElem?_getD, List.getElem?_eq_getElem (by omega)] at this
    simpa using this
theorem Is.take {xs : List Int} {n : Nat} (hx : Is xs n) (m : Nat) (h : ∀ i, m ≤ i → i < xs.length → xs.getD i 0 = 0) : Is (xs.take m) n :=
  ⟨hx.1.take m, by rw [ev_drop_zeros _ xs m h, hx.2]⟩
/-- what is left when the zeros at the end are cut off -/
theorem take_eq_enc {xs : List Int} {n : Nat} (hx : Is xs n) (m : Nat) (hm : m ≤ xs.length) (h : ∀ i, m ≤ i → i < xs.length → xs.getD i 0 = 0)
    (h0 : m = 0 ∨ xs.getD (m - 1) 0 ≠ 0) : xs.take m = enc n := by
  refine eq_enc (hx.take m h) ?_
  rcases h0 with h0 | h0
  · rw [h0]; simp
  · intro h1
    rw [List.getLast?_eq_getElem?] at h1
    have hl : (xs.take m).length = m := by rw [List.length_take]; omega
    rw [hl] at h1
    by_cases hz : m = 0
    · rw [hz] at h1; simp at h1
    · rw [List.getElem?_take, if_pos (by omega)] at h1
      exact h0 (by rw [List.getD_eq_getElem?_getD, h1]; rfl)

/-- the top limb -/
theorem enc_top {m : Nat} (h : m ≠ 0) : ∃ top low : Nat, (enc m).getD ((enc m).length - 1) 0 = (top : Int) ∧ 0 < top ∧ top < 4294967296 ∧ low < 2 ^ (32 * ((enc m).length - 1)) ∧ m = low + top * 2 ^ (32 * ((enc m).length - 1)) := by
  have hp : 0 < (enc m).length := List.length_pos_iff.2 (enc_ne h)
  have h1 := ev_take_succ' 4294967296 (enc m) ((enc m).length - 1)
  rw [show (enc m).length - 1 + 1 = (enc m).length by omega, List.take_length, (enc_is m).2] at h1
  have hd := (enc_lim m).getD ((enc m).length - 1)
  have hl := ((enc_lim m).take ((enc m).length - 1)).is
  have hlt := hl.lt
  have hln : ((enc m).take ((enc m).length - 1)).length = (enc m).length - 1 := by rw [List.length_take]; omega
  rw [hln] at hlt
  rw [hl.2] at h1
  have h0 : (enc m).getD ((enc m).length - 1) 0 ≠ 0 := by
    intro h2
    have h3 := enc_last m
    rw [List.getLast?_eq_getElem?] at h3
    rw [List.getD_eq_getElem?_getD, List.getElem?_eq_getElem (by omega)] at h2
    rw [List.getElem?_eq_getElem (by omega)] at h3
    exact h3 (congrArg some h2)
  have hpw : (4294967296 : Nat) ^ ((enc m).length - 1) = 2 ^ (32 * ((enc m).length - 1)) := by rw [Nat.pow_mul]
  rw [hpw] at hlt
  refine ⟨((enc m).getD ((enc m).length - 1) 0).toNat, (ev ((enc m).take ((enc m).length - 1)) 4294967296).toNat, by omega, by omega, by omega, hlt, ?_⟩
  apply Int.ofNat_inj.1
  rw [h1, ← hpw]
  rw [Int.natCast_add, Int.natCast_mul, Int.natCast_pow, Int.toNat_of_nonneg hd.1]
  rfl
theorem lset_self (xs : List Int) (i : Nat) (v : Int) (h : i < xs.length) : (xs.set i v).getD i 0 = v := by
  rw [List.getD_eq_getElem?_getD, List.getElem?_set_self h]; rfl
theorem lset_ne (xs : List Int) (i j : Nat) (v : Int) (h : i ≠ j) : (xs.set i v).getD j 0 = xs.getD j 0 := by
  rw [List.getD_eq_getElem?_getD, List.getElem?_set_ne h, ← List.getD_eq_getElem?_getD]
theorem lzeros_getD (n i : Nat) : (List.replicate n (0 : Int)).getD i 0 = 0 := by
  rw [List.getD_eq_getElem?_getD, List.getElem?_replicate]; split <;> rfl

theorem pow_le_lim {i j : Nat} (h : i ≤ j) : (4294967296 : Int) ^ i ≤ 4294967296 ^ j := by
  have h1 : (4294967296 : Nat) ^ i ≤ 4294967296 ^ j := Nat.pow_le_pow_right (by omega) h
  have h2 := Int.ofNat_le.2 h1
  rw [Int.natCast_pow, Int.natCast_pow] at h2
  exact h2
/-- the limbs from i on are alike -/
def TopEq (xs ys : List Int) (i : Nat) : Prop := ev xs 4294967296 - ev (xs.take i) 4294967296 = ev ys 4294967296 - ev (ys.take i) 4294967296
theorem TopEq.start {xs ys : List Int} {i : Nat} (hx : xs.length ≤ i) (hy : ys.length ≤ i) : TopEq xs ys i := by
  unfold TopEq; rw [List.take_of_length_le hx, List.take_of_length_le hy]; omega
theorem TopEq.step {xs ys : List Int} {i : Nat} (h : TopEq xs ys (i + 1)) (e : xs.getD i 0 = ys.getD i 0) : TopEq xs ys i := by
  unfold TopEq at *
  rw [ev_take_succ', ev_take_succ', e] at h
  generalize ys.getD i 0 * 4294967296 ^ i = t at *
  omega
theorem TopEq.zero {xs ys : List Int} (h : TopEq xs ys 0) : ev xs 4294967296 = ev ys 4294967296 := by
  unfold TopEq at h; simp at h; exact h
theorem TopEq.symm {xs ys : List Int} {i : Nat} (h : TopEq xs ys i) : TopEq ys xs i := Eq.symm h
theorem TopEq.lt {xs ys : List Int} {i : Nat} (h : TopEq xs ys (i + 1)) (hx : Lim xs) (hy : Lim ys) (hl : xs.getD i 0 < ys.getD i 0) : ev xs 4294967296 < ev ys 4294967296 := by
  unfold TopEq at h
  rw [ev_take_succ', ev_take_succ'] at h
  have h1 := (hx.take i).lt
  have h2 := (hy.take i).nonneg
  have h3 : (4294967296 : Int) ^ (xs.take i).length ≤ 4294967296 ^ i := pow_le_lim (by rw [List.length_take]; omega)
  have h4 : 0 ≤ (4294967296 : Int) ^ i := Int.pow_nonneg (by omega)
  have h5 : (xs.getD i 0 + 1) * 4294967296 ^ i ≤ ys.getD i 0 * 4294967296 ^ i := Int.mul_le_mul_of_nonneg_right (by omega) h4
  rw [Int.add_mul, Int.one_mul] at h5
  generalize xs.getD i 0 * 4294967296 ^ i = t at *
  generalize ys.getD i 0 * 4294967296 ^ i = u at *
  generalize (4294967296 : Int) ^ i = P at *
  generalize (4294967296 : Int) ^ (xs.take i).length = P' at *
  omega
/-- -1, 0 or 1 as m is below, at or above n -/
def cmpN (m n : Nat) : Int := if m < n then -1 else if n < m then 1 else 0
theorem cmpN_lt {m n : Nat} (h : m < n) : cmpN m n = -1 := if_pos h
theorem cmpN_gt {m n : Nat} (h : n < m) : cmpN m n = 1 := by unfold cmpN; rw [if_neg (by omega), if_pos h]
theorem cmpN_eq (m : Nat) : cmpN m m = 0 := by unfold cmpN; rw [if_neg (by omega), if_neg (by omega)]
theorem cmpN_nonpos {m n : Nat} : cmpN m n ≤ 0 ↔ m ≤ n := by unfold cmpN; split <;> (try split) <;> omega
theorem cmpN_neg {m n : Nat} : cmpN m n < 0 ↔ m < n := by unfold cmpN; split <;> (try split) <;> omega
theorem cmpN_pos {m n : Nat} : cmpN m n > 0 ↔ n < m := by unfold cmpN; split <;> (try split) <;> omega
theorem enc_length_mono {m n : Nat} (h : (enc m).length < (enc n).length) : m < n := by
  have h1 : m < 4294967296 ^ (enc m).length := lt_of_enc_length (Nat.le_refl _)
  have h2 : ¬ n < 4294967296 ^ (enc m).length := fun h2 => by have := enc_length_le _ h2; omega
  omega

theorem mul_lim {a b : Int} (ha : 0 ≤ a ∧ a < 4294967296) (hb : 0 ≤ b ∧ b < 4294967296) : 0 ≤ a * b ∧ a * b ≤ 18446744065119617025 := by
  refine ⟨Int.mul_nonneg ha.1 hb.1, ?_⟩
  have h1 : a * b ≤ 4294967295 * b := Int.mul_le_mul_of_nonneg_right (by omega) hb.1
  omega
end Cw
