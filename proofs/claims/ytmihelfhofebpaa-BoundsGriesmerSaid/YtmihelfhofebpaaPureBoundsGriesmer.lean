/- The function bounds.Griesmer returns the length that the reference computes, and ErrRange just for arguments out of their ranges. Conditions: none, for every three ints. -/
import Derived.Test.YtmihelfhofebpaaPBoundsGriesmerx1
namespace Go.Proofs.Ytmihelfhofebpaa.Pure
open Go.RowKit Go.Proofs.Ytmihelfhofebpaa.PBoundsGriesmer Go.Proofs.YtmihelfhofebpaaW.PrintWords Go.Proofs.YtmihelfhofebpaaW.PrintLast

theorem loops_same (q K : Int) : ∀ (k : Nat) (d n i : Int), bounds_Griesmer.l0 k q d n K i = (codewrightref34_Griesmer.l0 k q K d n i).map (fun r => (r, 0)) := by
  intro k
  induction k with
  | zero => intro d n i; rfl
  | succ k ih =>
    intro d n i
    simp only [bounds_Griesmer.l0, codewrightref34_Griesmer.l0]
    by_cases h : i < K
    · rw [if_pos h, if_pos h]
      by_cases h0 : q = 0
      · rw [if_pos h0, if_pos h0]; rfl
      · rw [if_neg h0, if_neg h0]; exact ih _ _ _
    · rw [if_neg h, if_neg h]; rfl

theorem loop_ends (q K : Int) (hq : q ≠ 0) (hK : K ≤ 64) (m : Nat) : ∀ (k : Nat) (d n i : Int), 0 ≤ i → K - i ≤ m → m < k →
    ∃ r, codewrightref34_Griesmer.l0 k q K d n i = some r := by
  induction m with
  | zero =>
    intro k d n i h0 h1 hk
    obtain ⟨k, rfl⟩ : ∃ m, k = m + 1 := ⟨k - 1, by omega⟩
    exact ⟨n, by simp only [codewrightref34_Griesmer.l0]; rw [if_neg (by omega)]⟩
  | succ m ih =>
    intro k d n i h0 h1 hk
    obtain ⟨k, rfl⟩ : ∃ m, k = m + 1 := ⟨k - 1, by omega⟩
    simp only [codewrightref34_Griesmer.l0]
    by_cases h : i < K
    · rw [if_pos h, if_neg hq]
      have hw : wrap64 (i + 1) = i + 1 := by unfold wrap64; omega
      rw [hw]
      exact ih _ _ _ _ (by omega) (by omega) (by omega)
    · rw [if_neg h]; exact ⟨_, rfl⟩

theorem BoundsGriesmer : codewrightlaw34_BoundsGriesmer.Pure := by
  intro q K d hq hK hd
  refine ⟨67, ?_⟩
  unfold codewrightlaw34_BoundsGriesmer.f bounds_Griesmer.f
  have hj : bounds_Griesmer.j0 67 q K d true = some (0, 6) := rfl
  by_cases h1 : q < 2
  · simp only [if_pos h1, hj, Option.bind_some, if_true]; rfl
  by_cases h2 : q > 256
  · simp only [if_neg h1, if_pos h2, hj, Option.bind_some, if_true]; rfl
  by_cases h3 : K < 0
  · simp only [if_neg h1, if_neg h2, if_pos h3, hj, Option.bind_some, if_true]; rfl
  by_cases h4 : K > 64
  · simp only [if_neg h1, if_neg h2, if_neg h3, if_pos h4, hj, Option.bind_some, if_true]; rfl
  by_cases h5 : d < 1
  · simp only [if_neg h1, if_neg h2, if_neg h3, if_neg h4, if_pos h5, hj, Option.bind_some, if_true]; rfl
  by_cases h6 : d > 1048576
  · simp only [if_neg h1, if_neg h2, if_neg h3, if_neg h4, if_neg h5, if_pos h6, decide_eq_true h6, hj, Option.bind_some, if_true]; rfl
  obtain ⟨r, hr⟩ := loop_ends q K (by omega) (by omega) 65 66 d 0 0 (by omega) (by omega) (by omega)
  have hr2 : codewrightref34_Griesmer.l0 67 q K d 0 0 = some r := (codewrightref34_Griesmer.mono_l 66 q K d 0 0) r hr
  have hb : bounds_Griesmer.j0 67 q K d false = some (r, 0) := by
    have e : bounds_Griesmer.j0 67 q K d false = bounds_Griesmer.l0 66 q d 0 K 0 := rfl
    rw [e, loops_same, hr]; rfl
  have hf : codewrightref34_Griesmer.f 67 q K d = some r := hr2
  simp only [if_neg h1, if_neg h2, if_neg h3, if_neg h4, if_neg h5, if_neg h6, decide_eq_false h6, hb, hf, Option.bind_some, if_true]
  simp

end Go.Proofs.Ytmihelfhofebpaa.Pure
