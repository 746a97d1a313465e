/- What the printed function Gilbert computes. -/
import Derived.Test.YtmihelfhofebpaaBoundsGilbertCVolA
import Derived.Test.YtmihelfhofebpaaBoundsGilbertCCmpA
import Derived.Test.YtmihelfhofebpaaBoundsGilbertCRng
import Derived.Test.YtmihelfhofebpaaCwGil
namespace Go.Proofs.Ytmihelfhofebpaa.BoundsGilbertC
open Go.RowKit Go.Proofs.Ytmihelfhofebpaa.PBoundsGilbert Go.Proofs.YtmihelfhofebpaaW.PrintWords Go.Proofs.YtmihelfhofebpaaW.PrintLast Go.Proofs.YtmihelfhofebpaaW.PrintMore Cw
theorem pow_small2 {q e : Nat} (hq : q ≤ 256) (he : e ≤ 65) : q ^ e ≤ P2 520 := pow_small hq he
theorem gilbert_l0 (q n V : Nat) (hq : 2 ≤ q) (hq2 : q ≤ 256) (hn : n ≤ 64) (hV : (enc V).length ≤ 1001) : ∀ k : Nat, k ≤ n → Evt (fun r => bounds_Gilbert.l0 r q n (enc V) k) ((gil V q n k : Nat), 0) := by
  intro k
  induction k with
  | zero => intro _; exact Evt.step (fun k => bounds_Gilbert.l0.eq_2 ..) (Evt.neg (by omega) (Evt.now' rfl))
  | succ k ih =>
    intro hk
    refine Evt.step (fun k => bounds_Gilbert.l0.eq_2 ..) (Evt.pos (by omega) ?_)
    have l2 := P2_len (L := 1001) (pow_small2 (e := n - (k + 1)) hq2 (by omega)) (by omega)
    rw [wsub (i := n) (j := k + 1) (by omega) hk, wpred (by omega)]
    refine Evt.bind (power_ev q (n - (k + 1)) 520 (by omega) (by omega) (by omega) (pow_small2 hq2 (by omega))) (Evt.bind (cmp_ev (enc_is _) (enc_is V) (by omega) (by omega)) ?_)
    rw [gil]
    by_cases h : V < q ^ (n - (k + 1))
    · rw [if_pos h]
      exact Evt.neg (fun h2 => by have := cmpN_nonpos.1 h2; omega) (Evt.now _)
    · rw [if_neg h]
      exact Evt.pos (cmpN_nonpos.2 (by omega)) (ih (by omega))
theorem gilbert_ev (q n d : Nat) (hq : 2 ≤ q) (hq2 : q ≤ 256) (hn : n ≤ 64) (hd : 1 ≤ d) (hdn : d ≤ n) : Evt (fun r => bounds_Gilbert.f r q n d) ((gil (psum (q - 1) (n - 1) (d - 1)) q n n : Nat), 0) := by
  unfold bounds_Gilbert.f
  refine Evt.bind0 (out_no (by unfold InR; omega)) (Evt.neg (by simp) ?_)
  have h1 : wrap64 ((d : Int) - 2) = ((d - 1 : Nat) : Int) - 1 := by rw [w64 (by omega) (by omega)]; omega
  have h2 : wrap64 ((n : Int) - 1) = ((n - 1 : Nat) : Int) := by rw [w64 (by omega) (by omega)]; omega
  rw [h1, h2]
  clear h1 h2
  exact Evt.bind (volume_ev q (n - 1) (d - 1) (by omega) hq2 (by omega) (by omega)) (gilbert_l0 q n _ hq hq2 hn (psum_len (by omega) (by omega) (by omega)) n (Nat.le_refl _))
end Go.Proofs.Ytmihelfhofebpaa.BoundsGilbertC
