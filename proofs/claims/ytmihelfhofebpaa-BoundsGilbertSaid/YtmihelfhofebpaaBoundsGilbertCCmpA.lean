/- What the printed function Cmp of nat computes. -/
import Derived.Test.YtmihelfhofebpaaBoundsGilbertCNatA
namespace Go.Proofs.Ytmihelfhofebpaa.BoundsGilbertC
open Go.RowKit Go.Proofs.Ytmihelfhofebpaa.PBoundsGilbert Go.Proofs.YtmihelfhofebpaaW.PrintWords Go.Proofs.YtmihelfhofebpaaW.PrintLast Go.Proofs.YtmihelfhofebpaaW.PrintMore Cw
theorem cmp_l0 (a b : List Int) (m n : Nat) (ha : Is a m) (hb : Is b n) (hab : a.length = b.length) (hl : a.length ≤ 1000000000) : ∀ i : Nat, i ≤ a.length → TopEq a b i →
    Evt (fun k => nat_Cmp.l0 k a b ((i : Int) - 1)) (cmpN m n) := by
  intro i
  induction i with
  | zero =>
    intro _ h
    have e := h.zero
    rw [ha.2, hb.2] at e
    have : m = n := by omega
    subst this
    rw [cmpN_eq]
    exact Evt.step (fun k => nat_Cmp.l0.eq_2 ..) (Evt.neg (by omega) (Evt.now _))
  | succ i ih =>
    intro hi h
    refine Evt.step (fun k => nat_Cmp.l0.eq_2 ..) ?_
    rw [show (((i + 1 : Nat) : Int) - 1) = (i : Int) by omega, wpred2 (by omega)]
    refine Evt.pos (by omega) (Evt.pos (by omega) (Evt.pos (by omega) (Evt.pos (by omega) ?_)))
    rw [rd_nat, rd_nat]
    by_cases h1 : a.getD i 0 < b.getD i 0
    · have e := h.lt ha.1 hb.1 h1
      rw [ha.2, hb.2] at e
      exact Evt.pos h1 (Evt.now' (cmpN_lt (by omega)).symm)
    by_cases h2 : a.getD i 0 > b.getD i 0
    · have e := h.symm.lt hb.1 ha.1 h2
      rw [ha.2, hb.2] at e
      exact Evt.neg h1 (Evt.pos h2 (Evt.now' (cmpN_gt (by omega)).symm))
    · exact Evt.neg h1 (Evt.neg h2 (ih (by omega) (h.step (by omega))))
theorem cmp_ev {a b : List Int} {m n : Nat} (ha : Is a m) (hb : Is b n) (hla : a.length ≤ 1000000000) (hlb : b.length ≤ 1000000000) : Evt (fun k => nat_Cmp.f k a b) (cmpN m n) := by
  unfold nat_Cmp.f
  have h1 := ha.enc_length
  have h2 := hb.enc_length
  refine Evt.bind (short_ev ha (by omega)) (Evt.bind (short_ev hb (by omega)) ?_)
  by_cases h : (enc m).length = (enc n).length
  · rw [wpred2 (by omega)]
    exact Evt.pos (by omega) (cmp_l0 _ _ m n (enc_is m) (enc_is n) h (by omega) _ (Nat.le_refl _) (TopEq.start (by omega) (by omega)))
  · refine Evt.neg (by omega) ?_
    by_cases h3 : (enc m).length < (enc n).length
    · exact Evt.pos (by omega) (Evt.now' (cmpN_lt (enc_length_mono h3)).symm)
    · exact Evt.neg (by omega) (Evt.now' (cmpN_gt (enc_length_mono (by omega))).symm)
end Go.Proofs.Ytmihelfhofebpaa.BoundsGilbertC
