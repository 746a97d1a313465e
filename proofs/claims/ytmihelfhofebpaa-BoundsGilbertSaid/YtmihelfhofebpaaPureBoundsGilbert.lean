/- The function bounds.Gilbert returns the dimension that the reference computes, and ErrRange just for arguments out of their ranges. Conditions: none, for every three ints. -/
import Derived.Test.YtmihelfhofebpaaBoundsGilbertCGilA
import Derived.Test.YtmihelfhofebpaaBoundsGilbertCRefVol
import Derived.Test.YtmihelfhofebpaaBoundsGilbertCRefCmp
namespace Go.Proofs.Ytmihelfhofebpaa.Pure
open Go.RowKit Go.Proofs.Ytmihelfhofebpaa.PBoundsGilbert Go.Proofs.YtmihelfhofebpaaW.PrintWords Go.Proofs.YtmihelfhofebpaaW.PrintLast Go.Proofs.YtmihelfhofebpaaW.PrintMore Cw Go.Proofs.Ytmihelfhofebpaa.BoundsGilbertC

theorem rgilbert_l0 (q n d : Nat) (hq : 2 ≤ q) (hq2 : q ≤ 256) (hn : n ≤ 64) (hd : 1 ≤ d) (hdn : d ≤ n) : ∀ (e i best : Nat), i + e = n + 1 → (i = 0 → best = 0) → (i ≠ 0 → best = gil (psum (q - 1) (n - 1) (d - 1)) q n (i - 1)) →
    Evt (fun r => codewrightref34_Gilbert.l0 r q n d best i) (gil (psum (q - 1) (n - 1) (d - 1)) q n n : Nat) := by
  intro e
  have hl := psum_len (m := q - 1) (n := n - 1) (i := d - 1) (by omega) (by omega) (by omega)
  induction e with
  | zero =>
    intro i best hi h0 h1
    have e1 := h1 (by omega)
    rw [show i - 1 = n by omega] at e1
    exact Evt.step (fun k => codewrightref34_Gilbert.l0.eq_2 ..) (Evt.neg (by omega) (Evt.now' (by rw [e1])))
  | succ e ih =>
    intro i best hi h0 h1
    refine Evt.step (fun k => codewrightref34_Gilbert.l0.eq_2 ..) (Evt.pos (by omega) ?_)
    have l2 := P2_len (L := 1001) (pow_small2 (q := q) (e := n - i) hq2 (by omega)) (by omega)
    rw [show wrap64 ((d : Int) - 2) = ((d - 1 : Nat) : Int) - 1 by rw [w64 (by omega) (by omega)]; omega, show wrap64 ((n : Int) - 1) = ((n - 1 : Nat) : Int) by rw [w64 (by omega) (by omega)]; omega, wsub (i := n) (j := i) (by omega) (by omega), wsucc (by omega)]
    refine Evt.bind (rvolume_ev q (n - 1) (d - 1) (by omega) hq2 (by omega) (by omega)) (Evt.bind (rrpow_ev q (n - i) 520 (by omega) (by omega) (by omega) (pow_small2 hq2 (by omega))) (Evt.bind (rcmp_ev (enc_is _) (enc_is _) (by omega) (by omega)) ?_))
    by_cases h : psum (q - 1) (n - 1) (d - 1) < q ^ (n - i)
    · refine Evt.pos (cmpN_neg.2 h) (ih (i + 1) i (by omega) (by omega) (fun _ => ?_))
      rw [Nat.add_sub_cancel]
      cases i with
      | zero => rfl
      | succ i => rw [gil, if_pos h]
    · refine Evt.neg (fun h2 => h (cmpN_neg.1 h2)) (ih (i + 1) best (by omega) (by omega) (fun _ => ?_))
      rw [Nat.add_sub_cancel]
      cases i with
      | zero => rw [h0 rfl]; rfl
      | succ i => rw [gil, if_neg h]; exact h1 (by omega)

theorem BoundsGilbert : codewrightlaw34_BoundsGilbert.Pure := by
  intro q n d _ _ _
  refine Evt.rounds ?_
  unfold codewrightlaw34_BoundsGilbert.f
  by_cases h : InR q n d
  · have h' := h
    unfold InR at h'
    obtain ⟨q, rfl⟩ := Int.eq_ofNat_of_zero_le (by omega : 0 ≤ q)
    obtain ⟨n, rfl⟩ := Int.eq_ofNat_of_zero_le (by omega : 0 ≤ n)
    obtain ⟨d, rfl⟩ := Int.eq_ofNat_of_zero_le (by omega : 0 ≤ d)
    have hg := gilbert_ev q n d (by omega) (by omega) (by omega) (by omega) (by omega)
    have hr : Evt (fun r => codewrightref34_Gilbert.f r q n d) (gil (psum (q - 1) (n - 1) (d - 1)) q n n : Nat) :=
      rgilbert_l0 q n d (by omega) (by omega) (by omega) (by omega) (by omega) (n + 1) 0 0 (by omega) (fun _ => rfl) (fun h => absurd rfl h)
    refine Evt.bind hg (Evt.bind0 (range_yes h) (Evt.pos rfl (Evt.pos rfl (Evt.bind hr (Evt.now' ?_)))))
    simp
  · have hg : Evt (fun r => bounds_Gilbert.f r q n d) (0, 6) := by
      unfold bounds_Gilbert.f
      exact Evt.bind0 (out_yes h) (Evt.pos rfl (Evt.now _))
    exact Evt.bind hg (Evt.bind0 (range_no h) (Evt.neg (by simp) (Evt.pos rfl (Evt.now' rfl))))
end Go.Proofs.Ytmihelfhofebpaa.Pure
