/- What the printed functions of package nat compute: short, Trim, Of, plus, Add, times, Mul. -/
import Derived.Test.YtmihelfhofebpaaPBoundsGilbertx
import Derived.Test.YtmihelfhofebpaaBoundsGilbertCWr
namespace Go.Proofs.Ytmihelfhofebpaa.BoundsGilbertC
open Go.RowKit Go.Proofs.Ytmihelfhofebpaa.PBoundsGilbert Go.Proofs.YtmihelfhofebpaaW.PrintWords Go.Proofs.YtmihelfhofebpaaW.PrintLast Go.Proofs.YtmihelfhofebpaaW.PrintMore Cw

theorem short_l0 (xs : List Int) (n : Nat) (hx : Is xs n) (hl : xs.length ≤ 140737488355328) : ∀ m : Nat, m ≤ xs.length → (∀ i, m ≤ i → i < xs.length → xs.getD i 0 = 0) →
    Evt (fun k => nat_short.l0 k xs m) (enc n) := by
  intro m
  induction m with
  | zero =>
    intro hm h
    refine Evt.step (fun k => nat_short.l0.eq_2 ..) (Evt.neg (by omega) (Evt.pos (by omega) (Evt.pos (by omega) (Evt.now' ?_))))
    exact take_eq_enc hx 0 hm h (.inl rfl)
  | succ m ih =>
    intro hm h
    refine Evt.step (fun k => nat_short.l0.eq_2 ..) ?_
    rw [wpred (by omega)]
    refine Evt.pos (by omega) (Evt.pos (by omega) (Evt.pos (by omega) ?_))
    by_cases hz : rd xs (m : Int) = 0
    · refine Evt.pos hz (ih (by omega) fun i h1 h2 => ?_)
      by_cases hi : i = m
      · rw [hi]; exact hz
      · exact h i (by omega) h2
    · refine Evt.neg hz (Evt.pos (by omega) (Evt.pos (by omega) (Evt.now' ?_)))
      exact take_eq_enc hx (m + 1) hm h (.inr hz)

theorem short_ev {xs : List Int} {n : Nat} (hx : Is xs n) (hl : xs.length ≤ 140737488355328) : Evt (fun k => nat_short.f k xs) (enc n) :=
  short_l0 xs n hx hl xs.length (Nat.le_refl _) (fun i h1 h2 => by omega)

theorem trim_ev {xs : List Int} {n : Nat} (hx : Is xs n) (hl : xs.length ≤ 35184372088831) : Evt (fun k => nat_Trim.f k xs) (enc n) := by
  unfold nat_Trim.f
  have := hx.enc_length
  exact Evt.bind (short_ev hx (by omega)) (Evt.pos (by simp; omega) (Evt.now' (by simp)))

theorem of_ev (n : Nat) (h : n < 18446744073709551616) : Evt (fun k => nat_Of.f k n) (enc n) := by
  unfold nat_Of.f
  refine Evt.bind (trim_ev (n := n) ⟨?_, ?_⟩ (by simp)) (Evt.now _)
  · exact Lim.cons (by omega) (by omega) (Lim.cons (by omega) (by omega) Lim.nil)
  · simp only [ev_cons, ev_nil]; omega

/-- the loop of plus: i limbs are added -/
theorem plus_l0 (a b : List Int) (m n : Nat) (ha : Is a m) (hb : Is b n) (hab : b.length ≤ a.length) (hl : a.length ≤ 35184372088000) : ∀ (d i : Nat) (out : List Int) (c : Int),
    i + d = a.length → Lim out → out.length = a.length + 1 → (∀ j, i ≤ j → out.getD j 0 = 0) → 0 ≤ c → c ≤ 1 → PlusInv a b out c i →
    Evt (fun k => nat_plus.l0 k a b out c (a.length : Int) (i : Int)) (enc (m + n)) := by
  intro d
  induction d with
  | zero =>
    intro i out c hi hlim hlen hz hc0 hc1 he
    refine Evt.step (fun k => nat_plus.l0.eq_2 ..) (Evt.neg (by omega) (Evt.pos (by omega) (Evt.pos (by omega) ?_)))
    refine Evt.bind (short_ev (n := m + n) ⟨hlim.set _ (by omega) (by omega), ?_⟩ (by rw [List.length_set]; omega)) (Evt.now _)
    have h1 : i = a.length := by omega
    subst h1
    rw [Int.toNat_natCast, mod_limb hc0 (by omega), he.last (Nat.le_refl _) hab (by omega) (hz _ (Nat.le_refl _)), ha.2, hb.2]; omega
  | succ d ih =>
    intro i out c hi hlim hlen hz hc0 hc1 he
    refine Evt.step (fun k => nat_plus.l0.eq_2 ..) (Evt.pos (by omega) (Evt.pos (by omega) (Evt.pos (by omega) ?_)))
    have hai := ha.1.getD i
    have hbi := hb.1.getD i
    have hn := he.step (by omega) (hz i (Nat.le_refl _))
    rw [wsucc (by omega)]
    simp only [rd_nat, Int.toNat_natCast]
    by_cases hlt : i < b.length
    · refine Evt.pos (by omega) (Evt.pos (by omega) ?_)
      simp (disch := omega) only [wu64]
      exact ih (i + 1) _ _ (by omega) (hlim.set _ (by omega) (by omega)) (by rw [List.length_set]; omega) (fun j hj => by rw [lset_ne _ _ _ _ (by omega)]; exact hz j (by omega)) (by omega) (by omega) hn
    · have hb0 : b.getD i 0 = 0 := getD_none' b i (by omega)
      refine Evt.neg (by omega) (Evt.pos (by omega) ?_)
      rw [hb0, Int.add_zero] at hn
      simp (disch := omega) only [wu64]
      exact ih (i + 1) _ _ (by omega) (hlim.set _ (by omega) (by omega)) (by rw [List.length_set]; omega) (fun j hj => by rw [lset_ne _ _ _ _ (by omega)]; exact hz j (by omega)) (by omega) (by omega) hn

theorem plus_j0 {a b : List Int} {m n : Nat} (ha : Is a m) (hb : Is b n) (hab : b.length ≤ a.length) (hl : a.length ≤ 35184372088000) : Evt (fun k => nat_plus.j0 k a b) (enc (m + n)) := by
  refine Evt.step (fun k => nat_plus.j0.eq_2 ..) ?_
  rw [wsucc (by omega)]
  refine Evt.pos (by omega) (Evt.pos (by omega) ?_)
  rw [Int.toNat_natCast]
  exact plus_l0 a b m n ha hb hab hl a.length 0 _ 0 (by omega) (Lim.zeros _) (by simp) (fun j _ => lzeros_getD _ _) (by omega) (by omega) (PlusInv.start ..)

theorem plus_ev {a b : List Int} {m n : Nat} (ha : Is a m) (hb : Is b n) (hl : a.length ≤ 35184372088000) (hl2 : b.length ≤ 35184372088000) : Evt (fun k => nat_plus.f k a b) (enc (m + n)) := by
  unfold nat_plus.f
  by_cases h : (a.length : Int) < b.length
  · refine Evt.pos h ?_
    rw [Nat.add_comm]
    exact plus_j0 hb ha (by omega) hl2
  · exact Evt.neg h (plus_j0 ha hb (by omega) hl)
end Go.Proofs.Ytmihelfhofebpaa.BoundsGilbertC
