/- What the printed functions whole, power, choose and volume of bounds compute. -/
import Derived.Test.YtmihelfhofebpaaBoundsGilbertCNatP
import Derived.Test.YtmihelfhofebpaaCwVol
namespace Go.Proofs.Ytmihelfhofebpaa.BoundsGilbertC
open Go.RowKit Go.Proofs.Ytmihelfhofebpaa.PBoundsGilbert Go.Proofs.YtmihelfhofebpaaW.PrintWords Go.Proofs.YtmihelfhofebpaaW.PrintLast Go.Proofs.YtmihelfhofebpaaW.PrintMore Cw

theorem whole_ev (n : Nat) (h : n < 9223372036854775808) : Evt (fun k => bounds_whole.f k n) (enc n) := by
  unfold bounds_whole.f
  rw [wu64n (by omega)]
  exact Evt.bind (of_ev n (by omega)) (Evt.now _)
theorem power_ev (m e a : Nat) (ha : a < 131072) (hm : m < 9223372036854775808) (he : e < 9223372036854775808) (h : m ^ e ≤ P2 a) : Evt (fun k => bounds_power.f k m e) (enc (m ^ e)) := by
  unfold bounds_power.f
  have : (enc m).length ≤ 2 := enc_length_le _ (by omega)
  obtain ⟨L, hL⟩ : ∃ L, L = 4096 := ⟨_, rfl⟩
  exact Evt.bind (whole_ev m hm) (Evt.bind (pow_ev (enc_is m) (by omega) e L hL he (.inr (P2_lt h (by omega)))) (Evt.now _))
theorem choose_ev (n k : Nat) (hn : n ≤ 4096) : Evt (fun r => bounds_choose.f r n k) (enc (binom n k)) := by
  unfold bounds_choose.f
  exact Evt.bind (binomial_ev n k hn) (Evt.now _)

theorem volume_l0 (q n r : Nat) (hq : 1 ≤ q) (hq2 : q ≤ 256) (hn : n ≤ 64) (hr : r ≤ 65) : ∀ (d i : Nat), i + d = r → Evt (fun k => bounds_volume.l0 k q n ((r : Int) - 1) (enc (psum (q - 1) n i)) i) (enc (psum (q - 1) n r)) := by
  intro d
  induction d with
  | zero =>
    intro i hi
    have : i = r := by omega
    subst this
    exact Evt.step (fun k => bounds_volume.l0.eq_2 ..) (Evt.neg (by omega) (Evt.now _))
  | succ d ih =>
    intro i hi
    refine Evt.step (fun k => bounds_volume.l0.eq_2 ..) (Evt.pos (by omega) ?_)
    rw [wsucc (by omega), show wrap64 ((q : Int) - 1) = ((q - 1 : Nat) : Int) by rw [w64 (by omega) (by omega)]; omega]
    refine Evt.bind (choose_ev n i (by omega)) (Evt.bind (power_ev (q - 1) i 520 (by omega) (by omega) (by omega) (pow_small (by omega) (by omega))) ?_)
    have l1 := P2_len (L := 1001) (binom_small hn i) (by omega)
    have l2 := P2_len (L := 1001) (pow_small (m := q - 1) (i := i) (by omega) (by omega)) (by omega)
    have l3 := P2_len (L := 1001) (term_small (m := q - 1) (n := n) (i := i) (by omega) hn (by omega)) (by omega)
    have l4 := psum_len (m := q - 1) (n := n) (i := i) (by omega) hn (by omega)
    refine Evt.bind (mul2_ev (enc_is _) (enc_is _) (by omega) (by omega)) (Evt.bind (add2_ev (enc_is _) (enc_is _) (by omega) (by omega)) ?_)
    exact ih (i + 1) (by omega)

/-- the number of words in a ball of radius r - 1 -/
theorem volume_ev (q n r : Nat) (hq : 1 ≤ q) (hq2 : q ≤ 256) (hn : n ≤ 64) (hr : r ≤ 65) : Evt (fun k => bounds_volume.f k q n ((r : Int) - 1)) (enc (psum (q - 1) n r)) := by
  have := volume_l0 q n r hq hq2 hn hr r 0 (by omega)
  rw [psum, enc_zero] at this
  exact this
end Go.Proofs.Ytmihelfhofebpaa.BoundsGilbertC
