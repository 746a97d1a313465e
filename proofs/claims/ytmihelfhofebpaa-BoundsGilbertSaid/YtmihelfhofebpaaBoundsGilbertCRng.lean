/- The ranges of q, n and d. -/
import Derived.Test.YtmihelfhofebpaaPBoundsGilbertx
import Derived.Test.YtmihelfhofebpaaBoundsGilbertCWr
namespace Go.Proofs.Ytmihelfhofebpaa.BoundsGilbertC
open Go.RowKit Go.Proofs.Ytmihelfhofebpaa.PBoundsGilbert Go.Proofs.YtmihelfhofebpaaW.PrintWords Go.Proofs.YtmihelfhofebpaaW.PrintLast Go.Proofs.YtmihelfhofebpaaW.PrintMore Cw
/-- q, n and d are in their ranges -/
def InR (q n d : Int) : Prop := 2 ≤ q ∧ q ≤ 256 ∧ 1 ≤ n ∧ n ≤ 64 ∧ 1 ≤ d ∧ d ≤ n
theorem out_yes {q n d : Int} (h : ¬ InR q n d) : bounds_out.f q n d = some true := by
  unfold InR at h; unfold bounds_out.f
  by_cases h1 : q < 2
  · rw [if_pos h1]
  by_cases h2 : q > 256
  · rw [if_neg h1, if_pos h2]
  by_cases h3 : n < 1
  · rw [if_neg h1, if_neg h2, if_pos h3]
  by_cases h4 : n > 64
  · rw [if_neg h1, if_neg h2, if_neg h3, if_pos h4]
  by_cases h5 : d < 1
  · rw [if_neg h1, if_neg h2, if_neg h3, if_neg h4, if_pos h5]
  · rw [if_neg h1, if_neg h2, if_neg h3, if_neg h4, if_neg h5, decide_eq_true (by omega)]
theorem out_no {q n d : Int} (h : InR q n d) : bounds_out.f q n d = some false := by
  unfold InR at h; unfold bounds_out.f
  rw [if_neg (by omega), if_neg (by omega), if_neg (by omega), if_neg (by omega), if_neg (by omega), decide_eq_false (by omega)]
theorem range_yes {q n d : Int} (h : InR q n d) : codewrightref34_Range.f q n d = some true := by
  unfold InR at h; unfold codewrightref34_Range.f
  rw [if_pos (by omega), if_pos (by omega), if_pos (by omega), if_pos (by omega), if_pos (by omega), decide_eq_true (by omega)]
theorem range_no {q n d : Int} (h : ¬ InR q n d) : codewrightref34_Range.f q n d = some false := by
  unfold InR at h; unfold codewrightref34_Range.f
  by_cases h1 : q ≥ 2
  · by_cases h2 : q ≤ 256
    · by_cases h3 : n ≥ 1
      · by_cases h4 : n ≤ 64
        · by_cases h5 : d ≥ 1
          · rw [if_pos h1, if_pos h2, if_pos h3, if_pos h4, if_pos h5, decide_eq_false (by omega)]
          · rw [if_pos h1, if_pos h2, if_pos h3, if_pos h4, if_neg h5]
        · rw [if_pos h1, if_pos h2, if_pos h3, if_neg h4]
      · rw [if_pos h1, if_pos h2, if_neg h3]
    · rw [if_pos h1, if_neg h2]
  · rw [if_neg h1]
end Go.Proofs.Ytmihelfhofebpaa.BoundsGilbertC
