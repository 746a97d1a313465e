/- What the printed reference function Cmp computes. -/
import Derived.Test.YtmihelfhofebpaaBoundsGilbertCRefA
namespace Go.Proofs.Ytmihelfhofebpaa.BoundsGilbertC
open Go.RowKit Go.Proofs.Ytmihelfhofebpaa.PBoundsGilbert Go.Proofs.YtmihelfhofebpaaW.PrintWords Go.Proofs.YtmihelfhofebpaaW.PrintLast Go.Proofs.YtmihelfhofebpaaW.PrintMore Cw
theorem rcmp_l0 (a b : List Int) (m n : Nat) (ha : Is a m) (hb : Is b n) : ∀ i : Nat, i ≤ 2000000000 → TopEq a b i →
    Evt (fun k => codewrightref01_Cmp.l0 k a b ((i : Int) - 1)) (cmpN m n) := by
  intro i
  induction i with
  | zero =>
    intro _ h
    have e := h.zero
    rw [ha.2, hb.2] at e
    have : m = n := by omega
    subst this
    rw [cmpN_eq]
    exact Evt.step (fun k => codewrightref01_Cmp.l0.eq_2 ..) (Evt.neg (by omega) (Evt.now _))
  | succ i ih =>
    intro hi h
    refine Evt.step (fun k => codewrightref01_Cmp.l0.eq_2 ..) ?_
    rw [show (((i + 1 : Nat) : Int) - 1) = (i : Int) by omega, wpred2 (by omega)]
    refine Evt.pos (by omega) (Evt.bind0 (rlimb_eq a ha.1 i) (Evt.bind0 (rlimb_eq b hb.1 i) ?_))
    by_cases h1 : a.getD i 0 < b.getD i 0
    · have e := h.lt ha.1 hb.1 h1
      rw [ha.2, hb.2] at e
      exact Evt.pos h1 (Evt.now' (cmpN_lt (by omega)).symm)
    refine Evt.neg h1 (Evt.bind0 (rlimb_eq a ha.1 i) (Evt.bind0 (rlimb_eq b hb.1 i) ?_))
    by_cases h2 : a.getD i 0 > b.getD i 0
    · have e := h.symm.lt hb.1 ha.1 h2
      rw [ha.2, hb.2] at e
      exact Evt.pos h2 (Evt.now' (cmpN_gt (by omega)).symm)
    · exact Evt.neg h2 (ih (by omega) (h.step (by omega)))
theorem rcmp_ev {a b : List Int} {m n : Nat} (ha : Is a m) (hb : Is b n) (hla : a.length ≤ 1000000000) (hlb : b.length ≤ 1000000000) : Evt (fun k => codewrightref01_Cmp.f k a b) (cmpN m n) := by
  unfold codewrightref01_Cmp.f
  rw [mx_eq]
  by_cases h : (a.length : Int) < (b.length : Int)
  · rw [if_pos h, wpred2 (by omega)]
    exact rcmp_l0 a b m n ha hb b.length (by omega) (TopEq.start (by omega) (by omega))
  · rw [if_neg h, wpred2 (by omega)]
    exact rcmp_l0 a b m n ha hb a.length (by omega) (TopEq.start (by omega) (by omega))
end Go.Proofs.Ytmihelfhofebpaa.BoundsGilbertC
