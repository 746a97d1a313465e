/- The function bounds.Volume returns the number that the reference computes, and ErrRange with no number just for arguments out of their ranges. Conditions: none, for every three ints. -/
import Derived.Test.YtmihelfhofebpaaBoundsVolumesCVolA
import Derived.Test.YtmihelfhofebpaaBoundsVolumesCRefVol
namespace Go.Proofs.Ytmihelfhofebpaa.Pure
open Go.RowKit Go.Proofs.Ytmihelfhofebpaa.PBoundsVolumes Go.Proofs.YtmihelfhofebpaaW.PrintWords Go.Proofs.YtmihelfhofebpaaW.PrintLast Go.Proofs.YtmihelfhofebpaaW.PrintMore Cw Go.Proofs.Ytmihelfhofebpaa.BoundsVolumesC

theorem BoundsVolumes : codewrightlaw34_BoundsVolumes.Pure := by
  intro q n r hq hn hr
  refine Evt.rounds ?_
  unfold codewrightlaw34_BoundsVolumes.f bounds_Volume.f codewrightref34_VolumeRange.f
  by_cases h1 : q < 2
  · exact Evt.bind (Evt.pos h1 (Evt.now _)) (Evt.bind0 (a := false) (by rw [if_neg (by omega)]) (Evt.neg (by simp) (Evt.pos rfl (Evt.now' rfl))))
  by_cases h2 : q > 256
  · exact Evt.bind (Evt.neg h1 (Evt.pos h2 (Evt.now _))) (Evt.bind0 (a := false) (by rw [if_pos (by omega), if_neg (by omega)]) (Evt.neg (by simp) (Evt.pos rfl (Evt.now' rfl))))
  by_cases h3 : n < 0
  · exact Evt.bind (Evt.neg h1 (Evt.neg h2 (Evt.pos h3 (Evt.now _)))) (Evt.bind0 (a := false) (by rw [if_pos (by omega), if_pos (by omega), if_neg (by omega)]) (Evt.neg (by simp) (Evt.pos rfl (Evt.now' rfl))))
  by_cases h4 : n > 64
  · exact Evt.bind (Evt.neg h1 (Evt.neg h2 (Evt.neg h3 (Evt.pos h4 (Evt.now _))))) (Evt.bind0 (a := false) (by rw [if_pos (by omega), if_pos (by omega), if_pos (by omega), if_neg (by omega)]) (Evt.neg (by simp) (Evt.pos rfl (Evt.now' rfl))))
  by_cases h5 : r < 0
  · exact Evt.bind (Evt.neg h1 (Evt.neg h2 (Evt.neg h3 (Evt.neg h4 (Evt.pos h5 (Evt.now _)))))) (Evt.bind0 (a := false) (by rw [if_pos (by omega), if_pos (by omega), if_pos (by omega), if_pos (by omega), if_neg (by omega)]) (Evt.neg (by simp) (Evt.pos rfl (Evt.now' rfl))))
  by_cases h6 : r > n
  · exact Evt.bind (Evt.neg h1 (Evt.neg h2 (Evt.neg h3 (Evt.neg h4 (Evt.neg h5 (Evt.pos h6 (Evt.now _))))))) (Evt.bind0 (a := false) (by rw [if_pos (by omega), if_pos (by omega), if_pos (by omega), if_pos (by omega), if_pos (by omega), decide_eq_false (by omega)]) (Evt.neg (by simp) (Evt.pos rfl (Evt.now' rfl))))
  obtain ⟨q, rfl⟩ := Int.eq_ofNat_of_zero_le (by omega : 0 ≤ q)
  obtain ⟨n, rfl⟩ := Int.eq_ofNat_of_zero_le (by omega : 0 ≤ n)
  obtain ⟨r, rfl⟩ := Int.eq_ofNat_of_zero_le (by omega : 0 ≤ r)
  have hv := volume_ev q n (r + 1) (by omega) (by omega) (by omega) (by omega)
  have hw := rvolume_ev q n (r + 1) (by omega) (by omega) (by omega) (by omega)
  rw [show ((r + 1 : Nat) : Int) - 1 = (r : Int) by omega] at hv hw
  have hl := psum_len (m := q - 1) (n := n) (i := r + 1) (by omega) (by omega) (by omega)
  refine Evt.bind (Evt.neg h1 (Evt.neg h2 (Evt.neg h3 (Evt.neg h4 (Evt.neg h5 (Evt.neg h6 (Evt.bind hv (Evt.now _)))))))) ?_
  refine Evt.bind0 (a := true) (by rw [if_pos (by omega), if_pos (by omega), if_pos (by omega), if_pos (by omega), if_pos (by omega), decide_eq_true (by omega)]) ?_
  exact Evt.pos rfl (Evt.pos rfl (Evt.bind hw (Evt.bind (rsame_ev (enc (psum (q - 1) n (r + 1))) (by omega)) (Evt.now _))))
end Go.Proofs.Ytmihelfhofebpaa.Pure
