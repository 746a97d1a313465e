/- What the printed functions of package nat compute: Bits, Pow. -/
import Derived.Test.YtmihelfhofebpaaBoundsGilbertCNatB
namespace Go.Proofs.Ytmihelfhofebpaa.BoundsGilbertC
open Go.RowKit Go.Proofs.Ytmihelfhofebpaa.PBoundsGilbert Go.Proofs.YtmihelfhofebpaaW.PrintWords Go.Proofs.YtmihelfhofebpaaW.PrintLast Go.Proofs.YtmihelfhofebpaaW.PrintMore Cw

theorem len_small : ∀ i : Fin 256, bits_Len32.f ((i.val : Nat) : Int) = some ((blen i.val : Nat) : Int) := by decide +kernel

theorem len_ev (n : Nat) (h : n < 4294967296) : bits_Len32.f (n : Int) = some ((blen n : Nat) : Int) := by
  have small : ∀ x : Nat, x < 256 → bits_Len32.f (x : Int) = some ((blen x : Nat) : Int) := fun x hx => len_small ⟨x, hx⟩
  have hb : ∀ (T : ByteArray) (i : Int) (c : Int), 0 ≤ c → c ≤ 100 → wrap64 (c + wrap64 (bt T i)) = c + bt T i := by
    intro T i c h0 h1
    have := bt_range T i
    rw [w64 (x := bt T i) (by omega) (by omega), w64 (by omega) (by omega)]
  by_cases h1 : n < 256
  · exact small n h1
  by_cases h2 : n < 65536
  · have key := small (n / 256) (by omega)
    have e : blen n = 8 + blen (n / 256) := by
      have := blen_shift (lo := n % 256) (hi := n / 256) (s := 8) (by omega) (by omega)
      rwa [show n % 256 + n / 256 * 2 ^ 8 = n by omega] at this
    unfold bits_Len32.f at key ⊢
    rw [if_neg (by omega), if_neg (by omega), if_pos (by omega), if_pos (by omega), hb _ _ _ (by omega) (by omega)] at key
    rw [if_neg (by omega), if_pos (by omega), if_pos (by omega), if_pos (by omega), hb _ _ _ (by omega) (by omega), e]
    rw [Int.natCast_ediv] at key
    have k2 := Option.some.inj key
    rw [Int.zero_add] at k2
    rw [show ((256 : Nat) : Int) = 256 by rfl] at k2
    rw [k2]; congr 1
  by_cases h3 : n < 16777216
  · have key := small (n / 65536) (by omega)
    have e : blen n = 16 + blen (n / 65536) := by
      have := blen_shift (lo := n % 65536) (hi := n / 65536) (s := 16) (by omega) (by omega)
      rwa [show n % 65536 + n / 65536 * 2 ^ 16 = n by omega] at this
    unfold bits_Len32.f at key ⊢
    rw [if_neg (by omega), if_neg (by omega), if_pos (by omega), if_pos (by omega), hb _ _ _ (by omega) (by omega)] at key
    rw [if_pos (by omega), if_neg (by omega), if_pos (by omega), if_pos (by omega), hb _ _ _ (by omega) (by omega), e]
    rw [Int.natCast_ediv] at key
    have k2 := Option.some.inj key
    rw [Int.zero_add] at k2
    rw [show ((65536 : Nat) : Int) = 65536 by rfl] at k2
    rw [k2]; congr 1
  · have key := small (n / 65536 / 256) (by omega)
    have e : blen n = 24 + blen (n / 65536 / 256) := by
      have := blen_shift (lo := n % 16777216) (hi := n / 65536 / 256) (s := 24) (by omega) (by omega)
      rwa [show n % 16777216 + n / 65536 / 256 * 2 ^ 24 = n by omega] at this
    unfold bits_Len32.f at key ⊢
    rw [if_neg (by omega), if_neg (by omega), if_pos (by omega), if_pos (by omega), hb _ _ _ (by omega) (by omega)] at key
    rw [if_pos (by omega), if_pos (by omega), if_pos (by omega), if_pos (by omega), hb _ _ _ (by omega) (by omega), e]
    rw [Int.natCast_ediv, Int.natCast_ediv] at key
    have k2 := Option.some.inj key
    rw [Int.zero_add] at k2
    rw [show ((65536 : Nat) : Int) = 65536 by rfl, show ((256 : Nat) : Int) = 256 by rfl] at k2
    rw [k2]; congr 1

theorem bits_ev {xs : List Int} {m : Nat} (hx : Is xs m) (hl : xs.length ≤ 1000000000) : Evt (fun k => nat_Bits.f k xs) ((blen m : Nat) : Int) := by
  unfold nat_Bits.f
  have hle := hx.enc_length
  refine Evt.bind (short_ev hx (by omega)) ?_
  by_cases h0 : m = 0
  · refine Evt.pos (by rw [h0, enc_zero]; rfl) (Evt.now' ?_)
    rw [h0]; rfl
  · obtain ⟨top, low, h1, h2, h3, h4, h5⟩ := enc_top h0
    have hp : 0 < (enc m).length := List.length_pos_iff.2 (enc_ne h0)
    have hb := blen_shift h4 (hi := top) (by omega)
    rw [← h5] at hb
    obtain ⟨L, hL⟩ : ∃ L, (enc m).length = L + 1 := ⟨(enc m).length - 1, by omega⟩
    rw [hL, Nat.add_sub_cancel] at h1 hb
    have hbl : blen top ≤ 32 := by
      have := blen_le (n := top) (by omega)
      have h6 : 2 ^ (blen top - 1) < 2 ^ 32 := by omega
      have := (Nat.pow_lt_pow_iff_right (by omega : 1 < 2)).1 h6
      omega
    rw [hL, wpred (by omega), rd_nat, h1]
    refine Evt.neg (by omega) (Evt.pos (by omega) (Evt.pos (by omega) (Evt.bind0 (len_ev top h3) (Evt.now' ?_))))
    rw [w64 (x := 32 * (L : Int)) (by omega) (by omega), w64 (by omega) (by omega), hb]
    omega

theorem BL (L : Nat) : (4294967296 : Nat) ^ L = 2 ^ (32 * L) := by rw [Nat.pow_mul]

theorem pow_l0 : ∀ (n : Nat) (o s : Nat) (L : Nat), L = 4096 → n < 9223372036854775808 → 0 < n → 0 < s → 0 < o → o * s ^ n < 4294967296 ^ L → Evt (fun k => nat_Pow.l0 k n (enc o) (enc s)) (enc (o * s ^ n), 0) := by
  intro n
  induction n using Nat.strongRecOn with
  | ind n ih =>
    intro o s L hL hn64 hn hs ho hb
    have hsn : s ≤ s ^ n := Nat.le_self_pow (by omega) s
    have hole : o ≤ o * s ^ n := Nat.le_mul_of_pos_right _ (Nat.pow_pos hs)
    have hsle : s ≤ o * s ^ n := Nat.le_trans hsn (Nat.le_mul_of_pos_left _ (by omega))
    have lo : (enc o).length ≤ L := enc_length_le _ (by omega)
    have ls : (enc s).length ≤ L := enc_length_le _ (by omega)
    have ltot : (enc (o * s ^ n)).length ≤ L := enc_length_le _ hb
    refine Evt.step (fun k => nat_Pow.l0.eq_2 ..) ?_
    rw [and_one (by omega) (by omega)]
    have hdiv : (n : Int) / 2 = ((n / 2 : Nat) : Int) := by omega
    rw [hdiv]
    by_cases hodd : n % 2 = 1
    · refine Evt.pos (by omega) (Evt.bind (times_ev (enc_is o) (enc_is s) (by omega) (by omega)) ?_)
      by_cases h2 : n / 2 = 0
      · have h1 : n = 1 := by omega
        subst h1
        rw [Nat.pow_one] at *
        exact Evt.pos (by omega) (Evt.neg (by omega) (Evt.bind (trim_ev (enc_is _) (by omega)) (Evt.now _)))
      · refine Evt.neg (by omega) (Evt.bind (times_ev (enc_is s) (enc_is s) (by omega) (by omega)) ?_)
        have e : o * s * (s * s) ^ (n / 2) = o * s ^ n := by
          rw [← Nat.pow_two, ← Nat.pow_mul, Nat.mul_assoc, Nat.mul_comm s, ← Nat.pow_succ]
          congr 2; omega
        have := ih (n / 2) (by omega) (o * s) (s * s) L hL (by omega) (by omega) (Nat.mul_pos hs hs) (Nat.mul_pos ho hs) (by rw [e]; exact hb)
        rwa [e] at this
    · refine Evt.neg (by omega) ?_
      by_cases h2 : n / 2 = 0
      · omega
      · refine Evt.neg (by omega) (Evt.bind (times_ev (enc_is s) (enc_is s) (by omega) (by omega)) ?_)
        have e : o * (s * s) ^ (n / 2) = o * s ^ n := by
          rw [← Nat.pow_two, ← Nat.pow_mul]
          congr 2; omega
        have := ih (n / 2) (by omega) o (s * s) L hL (by omega) (by omega) (Nat.mul_pos hs hs) ho (by rw [e]; exact hb)
        rwa [e] at this
theorem one_enc : ([1] : List Int) = enc 1 := by rw [enc_pos (by omega), Nat.div_eq_of_lt (by omega), enc_zero]; rfl

theorem pow_ev {a : List Int} {m : Nat} (ha : Is a m) (hl : a.length ≤ 1000000000) (e : Nat) (L : Nat) (hL : L = 4096) (he : e < 9223372036854775808) (h : m ≤ 1 ∨ m ^ e < 4294967296 ^ L) :
    Evt (fun k => nat_Pow.f k a e) (enc (m ^ e), 0) := by
  unfold nat_Pow.f
  refine Evt.neg (by omega) (Evt.bind (bits_ev ha hl) ?_)
  by_cases h0 : e = 0
  · subst h0
    exact Evt.pos (by omega) (Evt.step (fun k => nat_Pow.j0.eq_2 ..) (Evt.pos rfl (Evt.now' (by rw [one_enc, Nat.pow_zero]))))
  refine Evt.neg (by omega) ?_
  by_cases h1 : m = 1
  · subst h1
    exact Evt.step (fun k => nat_Pow.j0.eq_2 ..) (Evt.pos rfl (Evt.now' (by rw [one_enc, Nat.one_pow])))
  have hb1 : ¬ blen m = 1 := fun h => h1 ((blen_one_iff m).1 h)
  have hf : (((blen m : Nat) : Int) == 1) = false := by
    rw [beq_eq_false_iff_ne]; omega
  rw [hf]
  refine Evt.step (fun k => nat_Pow.j0.eq_2 ..) (Evt.neg (by simp) ?_)
  by_cases h2 : m = 0
  · subst h2
    exact Evt.pos rfl (Evt.now' (by rw [Nat.zero_pow (by omega), enc_zero]))
  have hb : m ^ e < 4294967296 ^ L := by rcases h with h | h; omega; exact h
  have hb2 := hb
  rw [BL] at hb2
  have hm2 := blen_le h2
  have hmp := blen_pos h2
  have h3 : (blen m - 1) * e < 32 * L := by
    apply (Nat.pow_lt_pow_iff_right (by omega : 1 < 2)).1
    rw [Nat.pow_mul]
    exact Nat.lt_of_le_of_lt (Nat.pow_le_pow_left hm2 e) hb2
  have h4 : e < 131072 := by
    have : 1 * e ≤ (blen m - 1) * e := Nat.mul_le_mul_right _ (by omega)
    omega
  have h5 : 0 < blen m := hmp
  have hbl : blen m - 1 ≤ (blen m - 1) * e := Nat.le_mul_of_pos_right _ (by omega)
  refine Evt.neg (by omega) (Evt.neg (by omega) ?_)
  have e1 : wrap64 (wrap64 (((blen m : Nat) : Int) - 1) * (e : Int)) = (((blen m - 1) * e : Nat) : Int) := by
    rw [w64 (x := ((blen m : Nat) : Int) - 1) (by omega) (by omega), show ((blen m : Nat) : Int) - 1 = ((blen m - 1 : Nat) : Int) by omega, ← Int.natCast_mul, w64 (by omega) (by omega)]
  rw [e1]
  clear e1
  refine Evt.neg (by omega) (Evt.bind (short_ev ha (by omega)) ?_)
  rw [one_enc]
  have := pow_l0 e 1 m L hL he (by omega) (by omega) (by omega) (by rw [Nat.one_mul]; exact hb)
  rwa [Nat.one_mul] at this
end Go.Proofs.Ytmihelfhofebpaa.BoundsGilbertC
