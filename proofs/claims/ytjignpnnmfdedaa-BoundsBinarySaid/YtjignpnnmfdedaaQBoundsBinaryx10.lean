/- A part of the print of this row, cut down to what the row uses. -/
import Derived.Test.YtjignpnnmfdedaaQBoundsBinaryx0
import Derived.Test.YtjignpnnmfdedaaQBoundsBinaryx1
import Derived.Test.YtjignpnnmfdedaaQBoundsBinaryx2
import Derived.Test.YtjignpnnmfdedaaQBoundsBinaryx9
-- printed by a scratch copy of the print, turned (wip/tools/turn_print.py)
namespace Go.Proofs.Ytjignpnnmfdedaa.PBoundsBinary
open Go.RowKit Go.Proofs.YtjignpnnmfdedaaW.PrintWords Go.Proofs.YtjignpnnmfdedaaW.PrintLast Go.Proofs.YtjignpnnmfdedaaW.PrintMore
attribute [local go_sem] max2_int min2_int max_two min_two max_three min_three max_four min_four   -- for this text's walks alone
set_option linter.unusedVariables false
set_option linter.unusedSimpArgs false
/-! ### codewrightlaw34_BoundsBinary: function 6 -/
mutual
def codewrightlaw34_BoundsBinary.j0 : Nat → Int → Int → List (List Int) → Bool → Option (Bool)
  | 0, _, _, _, _ => none
  | k + 1, x0, x1, x2, x51 => if x51 = true then (some true) else (if 0 < (x2.length : Int) then (codewrightlaw34_BoundsBinary.l0 k x0 x1 x2 ((rd_L1 x2 0).length : Int) 0 0) else (none))
def codewrightlaw34_BoundsBinary.l0 : Nat → Int → Int → List (List Int) → Int → Int → Int → Option (Bool)
  | 0, _, _, _, _, _, _ => none
  | k + 1, x0, x1, x2, x7, x8, x9 => if x9 < (x2.length : Int) then (if 0 ≤ x9 then (if 0 ≤ x7 then (if (x7 : Int).toNat ≤ 35184372088832 then ((codewrightref24_Distance.f k (rd_L1 x2 x9) (List.replicate (x7 : Int).toNat 0)).bind fun t504 => (if t504 = x1 then (codewrightlaw34_BoundsBinary.l0 k x0 x1 x2 x7 (wrap64 (x8 + 1)) (wrap64 (x9 + 1))) else (codewrightlaw34_BoundsBinary.l0 k x0 x1 x2 x7 x8 (wrap64 (x9 + 1))))) else (none)) else (none)) else (none)) else ((bounds_Johnson.f k x7 x0).bind fun bt505 => ((bounds_Constant.f k x7 x0 x1).bind fun bt509 => ((codewrightlaw34_holds.f k (x2.length : Int) bt505.1 bt505.2).bind fun t513 => (if t513 = true then ((codewrightlaw34_holds.f k x8 bt509.1 bt509.2).bind fun t514 => (some t514)) else (some false)))))
end
def codewrightlaw34_BoundsBinary.f (k : Nat) (a0 : Int) (a1 : Int) (l2 : List (List Int)) : Option (Bool) := if (l2.length : Int) > 300 then (codewrightlaw34_BoundsBinary.j0 k a0 a1 l2 true) else ((codewrightref34_Words.f k 2 l2).bind fun t495 => (if t495 = 0 then (if a0 < 1 then (codewrightlaw34_BoundsBinary.j0 k a0 a1 l2 true) else (if 0 < (l2.length : Int) then (if a0 > ((rd_L1 l2 0).length : Int) then (codewrightlaw34_BoundsBinary.j0 k a0 a1 l2 true) else (if a1 < 0 then (codewrightlaw34_BoundsBinary.j0 k a0 a1 l2 true) else (if a1 > ((rd_L1 l2 0).length : Int) then (codewrightlaw34_BoundsBinary.j0 k a0 a1 l2 true) else ((codewrightref34_Apart.f k l2 a0).bind fun t498 => (codewrightlaw34_BoundsBinary.j0 k a0 a1 l2 (!t498)))))) else (none))) else (codewrightlaw34_BoundsBinary.j0 k a0 a1 l2 true)))
def codewrightlaw34_BoundsBinary.T8 : Bool × List (List Nat × List Nat) := (true, [([], []), ([], []), ([0, 1], [0, 1]), ([2], [2]), ([], []), ([4, 4], [4]), ([3, 5], [3, 5]), ([], []), ([6, 7], [6, 7])])
def codewrightlaw34_BoundsBinary.B8 : List Nat := [0, 0, 3, 7, 0, 16, 63, 0, 255]
theorem codewrightlaw34_BoundsBinary.tab8 : rtab .any (opsOf Try.f6 8) = codewrightlaw34_BoundsBinary.T8 := by kernel_rfl
theorem codewrightlaw34_BoundsBinary.bits8 : waitsOk codewrightlaw34_BoundsBinary.T8.2 codewrightlaw34_BoundsBinary.B8 = true := by kernel_rfl
set_option maxHeartbeats 8000000 in
set_option maxRecDepth 100000 in
theorem codewrightlaw34_BoundsBinary.calls (k : Nat) (a0 : Int) (a1 : Int) (A2 : Option Addr) (c2 : Nat) (l2 : List (List Int)) (r : Bool) (w : World) (hr2 : Kd.C (Kd.slice 3 (Kd.int .i64)) w A2 l2.length l2) (hc2 : l2.length ≤ c2) (h : codewrightlaw34_BoundsBinary.f k a0 a1 l2 = some r) :
    Calls Try.prog 6 #[.int .i64 a0, .int .i64 a1, .slice A2 l2.length c2] w fun e w' => e = .returned (.bool r) ∧ Below w.heap.size w w' := by
  have HR2 := Aside0.mk hr2
  have HC2 := Aside0.mk hc2
  clear hr2 hc2
  have HB := Aside0.mk (Below.refl w.heap.size w)
  have H : (if (l2.length : Int) > 300 then (codewrightlaw34_BoundsBinary.j0 k a0 a1 l2 true) else ((codewrightref34_Words.f k 2 l2).bind fun t495 => (if t495 = 0 then (if a0 < 1 then (codewrightlaw34_BoundsBinary.j0 k a0 a1 l2 true) else (if 0 < (l2.length : Int) then (if a0 > ((rd_L1 l2 0).length : Int) then (codewrightlaw34_BoundsBinary.j0 k a0 a1 l2 true) else (if a1 < 0 then (codewrightlaw34_BoundsBinary.j0 k a0 a1 l2 true) else (if a1 > ((rd_L1 l2 0).length : Int) then (codewrightlaw34_BoundsBinary.j0 k a0 a1 l2 true) else ((codewrightref34_Apart.f k l2 a0).bind fun t498 => (codewrightlaw34_BoundsBinary.j0 k a0 a1 l2 (!t498)))))) else (none))) else (codewrightlaw34_BoundsBinary.j0 k a0 a1 l2 true)))) = some r := h
  clear h
  have HC4 := Aside0.mk H
  clear H
  go_enter Try.func6, Try.ntmps6
  go_upto_region 1 with (fail)
  go_cut [51] (fun v51 wc => ∃ (kq : Nat) (x51_3 : Bool), v51 = .bool x51_3 ∧ Aside0 (codewrightlaw34_BoundsBinary.j0 kq a0 a1 l2 x51_3 = some r) ∧ Aside0 (kq ≤ k) ∧ Aside0 (Below w.heap.size w wc))
  case first =>
    have H := HC4.out
    clear HC4
    by_cases c5 : (l2.length : Int) > 300
    · rw [if_pos c5] at H
      have c5b0 : decide (300 < (l2.length : Int)) = true := decide_eq_true c5
      have c5b1 : decide (300 < l2.length) = true := decide_eq_true (by omega)
      clear c5
      (first | rw [c5b0] | (simp only [i64_w, i32_w]; rw [c5b0]) | rw [c5b1] | rw [c5b2] | skip)
      have H' := Aside0.mk H
      clear H
      go_wp2
      go_meet
      case rel => exact ⟨_, (true), (by first | rfl | (simp; done) | (simp [*]; done)), H', ⟨by first | omega | exact Nat.le_refl _⟩, ⟨by repeat (first | (with_reducible first | exact HB.out | apply below_alloc | apply pw_below_drewN | apply below_drew1) | exact HB.out)⟩⟩
    · rw [if_neg c5] at H
      have c5b0 : decide (300 < (l2.length : Int)) = false := decide_eq_false c5
      have c5b1 : decide (300 < l2.length) = false := decide_eq_false (by omega)
      clear c5
      (first | rw [c5b0] | (simp only [i64_w, i32_w]; rw [c5b0]) | rw [c5b1] | rw [c5b2] | skip)
      replace H := Option.bind_eq_some_iff.mp H
      obtain ⟨t495, A60, H⟩ := H
      replace H : (if t495 = 0 then (if a0 < 1 then (codewrightlaw34_BoundsBinary.j0 k a0 a1 l2 true) else (if 0 < (l2.length : Int) then (if a0 > ((rd_L1 l2 0).length : Int) then (codewrightlaw34_BoundsBinary.j0 k a0 a1 l2 true) else (if a1 < 0 then (codewrightlaw34_BoundsBinary.j0 k a0 a1 l2 true) else (if a1 > ((rd_L1 l2 0).length : Int) then (codewrightlaw34_BoundsBinary.j0 k a0 a1 l2 true) else ((codewrightref34_Apart.f k l2 a0).bind fun t498 => (codewrightlaw34_BoundsBinary.j0 k a0 a1 l2 (!t498)))))) else (none))) else (codewrightlaw34_BoundsBinary.j0 k a0 a1 l2 true)) = some r := H
      have A6 := Aside0.mk A60
      clear A60
      by_cases c7 : t495 = 0
      · rw [if_pos c7] at H
        have c7b0 : (t495 == 0) = true := beq_iff_eq.mpr c7
        have c7b1 : (t495 != 0) = false := bne_eq_false_iff_eq.mpr c7
        clear c7
        by_cases c8 : a0 < 1
        · rw [if_pos c8] at H
          have c8b0 : decide (a0 < 1) = true := decide_eq_true c8
          clear c8
          have H' := Aside0.mk H
          clear H
          go_wp2_with (first | (go_at_call 22; (with_reducible refine (codewrightref34_Words.calls k 2 _ _ l2 t495 _ ?side1 ?side2 A6.out).mono ?_); (case side1 => repeat (first | exact (Kd.C_below HR2.out HB.out) | (with_reducible refine Kd.C_alloc ?_ _) | (with_reducible refine Kd.C_drewN ?_ _) | (with_reducible refine Kd.C_drew ?_))); (case side2 => exact HC2.out); rintro e w' ⟨rfl, ⟨nd, rfl⟩⟩))
          go_meet
          case rel => exact ⟨_, (true), (by first | rfl | (simp; done) | (simp [*]; done)), H', ⟨by first | omega | exact Nat.le_refl _⟩, ⟨by repeat (first | (with_reducible first | exact HB.out | apply below_alloc | apply pw_below_drewN | apply below_drew1) | exact HB.out)⟩⟩
        · rw [if_neg c8] at H
          have c8b0 : decide (a0 < 1) = false := decide_eq_false c8
          clear c8
          by_cases c9 : 0 < (l2.length : Int)
          · rw [if_pos c9] at H
            have c9b0 : decide (0 < (l2.length : Int)) = true := decide_eq_true c9
            have c9b1 : decide (0 < l2.length) = true := decide_eq_true (by omega)
            clear c9
            by_cases c10 : a0 > ((rd_L1 l2 0).length : Int)
            · rw [if_pos c10] at H
              have c10b0 : decide (((rd_L1 l2 0).length : Int) < a0) = true := decide_eq_true c10
              clear c10
              have H' := Aside0.mk H
              clear H
              go_wp2_with (first | (go_at_call 22; (with_reducible refine (codewrightref34_Words.calls k 2 _ _ l2 t495 _ ?side1 ?side2 A6.out).mono ?_); (case side1 => repeat (first | exact (Kd.C_below HR2.out HB.out) | (with_reducible refine Kd.C_alloc ?_ _) | (with_reducible refine Kd.C_drewN ?_ _) | (with_reducible refine Kd.C_drew ?_))); (case side2 => exact HC2.out); rintro e w' ⟨rfl, ⟨nd, rfl⟩⟩; have p496 : 0 ≤ (0 : Int) := (by omega); have q496 : 0 < (l2.length : Int) := of_decide_eq_true (by first | (with_reducible assumption) | assumption); obtain ⟨ad496, A496_0, c496_0, e496, hx496_0, hl496_0, hi496_0⟩ := at_L1 HR2.out 0 p496 q496; cases e496; have qi496 : (0 < l2.length) = True := eq_true (by omega); (try rw [show ((0 : Int)).toNat = 0 from rfl] at hx496_0); (try rw [Addr.add_zero'] at hx496_0); replace hx496_0 := (HB.out.cell (World.block_lt_of_cell? w _ hx496_0)).trans hx496_0; have HR496_0 := Aside0.mk hi496_0; have HC496_0 := Aside0.mk hl496_0; clear hi496_0 hl496_0; replace p496 := eq_true p496; replace q496 := eq_true q496))
              go_meet
              case rel => exact ⟨_, (true), (by first | rfl | (simp; done) | (simp [*]; done)), H', ⟨by first | omega | exact Nat.le_refl _⟩, ⟨by repeat (first | (with_reducible first | exact HB.out | apply below_alloc | apply pw_below_drewN | apply below_drew1) | exact HB.out)⟩⟩
            · rw [if_neg c10] at H
              have c10b0 : decide (((rd_L1 l2 0).length : Int) < a0) = false := decide_eq_false c10
              clear c10
              by_cases c11 : a1 < 0
              · rw [if_pos c11] at H
                have c11b0 : decide (a1 < 0) = true := decide_eq_true c11
                clear c11
                have H' := Aside0.mk H
                clear H
                go_wp2_with (first | (go_at_call 22; (with_reducible refine (codewrightref34_Words.calls k 2 _ _ l2 t495 _ ?side1 ?side2 A6.out).mono ?_); (case side1 => repeat (first | exact (Kd.C_below HR2.out HB.out) | (with_reducible refine Kd.C_alloc ?_ _) | (with_reducible refine Kd.C_drewN ?_ _) | (with_reducible refine Kd.C_drew ?_))); (case side2 => exact HC2.out); rintro e w' ⟨rfl, ⟨nd, rfl⟩⟩; have p496 : 0 ≤ (0 : Int) := (by omega); have q496 : 0 < (l2.length : Int) := of_decide_eq_true (by first | (with_reducible assumption) | assumption); obtain ⟨ad496, A496_0, c496_0, e496, hx496_0, hl496_0, hi496_0⟩ := at_L1 HR2.out 0 p496 q496; cases e496; have qi496 : (0 < l2.length) = True := eq_true (by omega); (try rw [show ((0 : Int)).toNat = 0 from rfl] at hx496_0); (try rw [Addr.add_zero'] at hx496_0); replace hx496_0 := (HB.out.cell (World.block_lt_of_cell? w _ hx496_0)).trans hx496_0; have HR496_0 := Aside0.mk hi496_0; have HC496_0 := Aside0.mk hl496_0; clear hi496_0 hl496_0; replace p496 := eq_true p496; replace q496 := eq_true q496))
                go_meet
                case rel => exact ⟨_, (true), (by first | rfl | (simp; done) | (simp [*]; done)), H', ⟨by first | omega | exact Nat.le_refl _⟩, ⟨by repeat (first | (with_reducible first | exact HB.out | apply below_alloc | apply pw_below_drewN | apply below_drew1) | exact HB.out)⟩⟩
              · rw [if_neg c11] at H
                have c11b0 : decide (a1 < 0) = false := decide_eq_false c11
                clear c11
                by_cases c12 : a1 > ((rd_L1 l2 0).length : Int)
                · rw [if_pos c12] at H
                  have c12b0 : decide (((rd_L1 l2 0).length : Int) < a1) = true := decide_eq_true c12
                  clear c12
                  have H' := Aside0.mk H
                  clear H
                  go_wp2_with (first | (go_at_call 22; (with_reducible refine (codewrightref34_Words.calls k 2 _ _ l2 t495 _ ?side1 ?side2 A6.out).mono ?_); (case side1 => repeat (first | exact (Kd.C_below HR2.out HB.out) | (with_reducible refine Kd.C_alloc ?_ _) | (with_reducible refine Kd.C_drewN ?_ _) | (with_reducible refine Kd.C_drew ?_))); (case side2 => exact HC2.out); rintro e w' ⟨rfl, ⟨nd, rfl⟩⟩; have p496 : 0 ≤ (0 : Int) := (by omega); have q496 : 0 < (l2.length : Int) := of_decide_eq_true (by first | (with_reducible assumption) | assumption); obtain ⟨ad496, A496_0, c496_0, e496, hx496_0, hl496_0, hi496_0⟩ := at_L1 HR2.out 0 p496 q496; cases e496; have qi496 : (0 < l2.length) = True := eq_true (by omega); (try rw [show ((0 : Int)).toNat = 0 from rfl] at hx496_0); (try rw [Addr.add_zero'] at hx496_0); replace hx496_0 := (HB.out.cell (World.block_lt_of_cell? w _ hx496_0)).trans hx496_0; have HR496_0 := Aside0.mk hi496_0; have HC496_0 := Aside0.mk hl496_0; clear hi496_0 hl496_0; replace p496 := eq_true p496; replace q496 := eq_true q496; have p497 : 0 ≤ (0 : Int) := (by omega); have q497 : 0 < (l2.length : Int) := of_decide_eq_true (by first | (with_reducible assumption) | assumption); obtain ⟨ad497, A497_0, c497_0, e497, hx497_0, hl497_0, hi497_0⟩ := at_L1 HR2.out 0 p497 q497; obtain rfl : ad496 = ad497 := (by injection e497); have qi497 : (0 < l2.length) = True := eq_true (by omega); (try rw [show ((0 : Int)).toNat = 0 from rfl] at hx497_0); (try rw [Addr.add_zero'] at hx497_0); replace hx497_0 := (HB.out.cell (World.block_lt_of_cell? w _ hx497_0)).trans hx497_0; have HR497_0 := Aside0.mk hi497_0; have HC497_0 := Aside0.mk hl497_0; clear hi497_0 hl497_0; replace p497 := eq_true p497; replace q497 := eq_true q497; have ea_ := Option.some.inj (hx496_0.symm.trans hx497_0); injection ea_ with ea_ en_ ec_; subst ea_; subst ec_; clear en_))
                  go_meet
                  case rel => exact ⟨_, (true), (by first | rfl | (simp; done) | (simp [*]; done)), H', ⟨by first | omega | exact Nat.le_refl _⟩, ⟨by repeat (first | (with_reducible first | exact HB.out | apply below_alloc | apply pw_below_drewN | apply below_drew1) | exact HB.out)⟩⟩
                · rw [if_neg c12] at H
                  have c12b0 : decide (((rd_L1 l2 0).length : Int) < a1) = false := decide_eq_false c12
                  clear c12
                  replace H := Option.bind_eq_some_iff.mp H
                  obtain ⟨t498, A130, H⟩ := H
                  replace H : (codewrightlaw34_BoundsBinary.j0 k a0 a1 l2 (!t498)) = some r := H
                  have A13 := Aside0.mk A130
                  clear A130
                  have H' := Aside0.mk H
                  clear H
                  go_wp2_with (first | (go_at_call 22; (with_reducible refine (codewrightref34_Words.calls k 2 _ _ l2 t495 _ ?side1 ?side2 A6.out).mono ?_); (case side1 => repeat (first | exact (Kd.C_below HR2.out HB.out) | (with_reducible refine Kd.C_alloc ?_ _) | (with_reducible refine Kd.C_drewN ?_ _) | (with_reducible refine Kd.C_drew ?_))); (case side2 => exact HC2.out); rintro e w' ⟨rfl, ⟨nd, rfl⟩⟩; have p496 : 0 ≤ (0 : Int) := (by omega); have q496 : 0 < (l2.length : Int) := of_decide_eq_true (by first | (with_reducible assumption) | assumption); obtain ⟨ad496, A496_0, c496_0, e496, hx496_0, hl496_0, hi496_0⟩ := at_L1 HR2.out 0 p496 q496; cases e496; have qi496 : (0 < l2.length) = True := eq_true (by omega); (try rw [show ((0 : Int)).toNat = 0 from rfl] at hx496_0); (try rw [Addr.add_zero'] at hx496_0); replace hx496_0 := (HB.out.cell (World.block_lt_of_cell? w _ hx496_0)).trans hx496_0; have HR496_0 := Aside0.mk hi496_0; have HC496_0 := Aside0.mk hl496_0; clear hi496_0 hl496_0; replace p496 := eq_true p496; replace q496 := eq_true q496; have p497 : 0 ≤ (0 : Int) := (by omega); have q497 : 0 < (l2.length : Int) := of_decide_eq_true (by first | (with_reducible assumption) | assumption); obtain ⟨ad497, A497_0, c497_0, e497, hx497_0, hl497_0, hi497_0⟩ := at_L1 HR2.out 0 p497 q497; obtain rfl : ad496 = ad497 := (by injection e497); have qi497 : (0 < l2.length) = True := eq_true (by omega); (try rw [show ((0 : Int)).toNat = 0 from rfl] at hx497_0); (try rw [Addr.add_zero'] at hx497_0); replace hx497_0 := (HB.out.cell (World.block_lt_of_cell? w _ hx497_0)).trans hx497_0; have HR497_0 := Aside0.mk hi497_0; have HC497_0 := Aside0.mk hl497_0; clear hi497_0 hl497_0; replace p497 := eq_true p497; replace q497 := eq_true q497; have ea_ := Option.some.inj (hx496_0.symm.trans hx497_0); injection ea_ with ea_ en_ ec_; subst ea_; subst ec_; clear en_) | (go_at_call 23; (with_reducible refine (codewrightref34_Apart.calls k _ _ l2 a0 t498 _ ?side1 ?side2 A13.out).mono ?_); (case side1 => repeat (first | exact (Kd.C_below HR2.out (by repeat (first | (with_reducible first | exact HB.out | apply below_alloc | apply pw_below_drewN | apply below_drew1) | exact HB.out))) | (with_reducible refine Kd.C_alloc ?_ _) | (with_reducible refine Kd.C_drewN ?_ _) | (with_reducible refine Kd.C_drew ?_))); (case side2 => exact HC2.out); rintro e w' ⟨rfl, ⟨nd, rfl⟩⟩))
                  go_meet
                  case rel => exact ⟨_, (!t498), (by first | rfl | (simp; done) | (simp [*]; done)), H', ⟨by first | omega | exact Nat.le_refl _⟩, ⟨by repeat (first | (with_reducible first | exact HB.out | apply below_alloc | apply pw_below_drewN | apply below_drew1) | exact HB.out)⟩⟩
          · rw [if_neg c9] at H
            exact absurd H (by simp)
      · rw [if_neg c7] at H
        have c7b0 : (t495 == 0) = false := beq_eq_false_iff_ne.mpr c7
        have c7b1 : (t495 != 0) = true := bne_iff_ne.mpr c7
        have H' := Aside0.mk H
        clear H
        go_wp2_with (first | (go_at_call 22; (with_reducible refine (codewrightref34_Words.calls k 2 _ _ l2 t495 _ ?side1 ?side2 A6.out).mono ?_); (case side1 => repeat (first | exact (Kd.C_below HR2.out HB.out) | (with_reducible refine Kd.C_alloc ?_ _) | (with_reducible refine Kd.C_drewN ?_ _) | (with_reducible refine Kd.C_drew ?_))); (case side2 => exact HC2.out); rintro e w' ⟨rfl, ⟨nd, rfl⟩⟩))
        go_meet
        case rel => exact ⟨_, (true), (by first | rfl | (simp; done) | (simp [*]; done)), H', ⟨by first | omega | exact Nat.le_refl _⟩, ⟨by repeat (first | (with_reducible first | exact HB.out | apply below_alloc | apply pw_below_drewN | apply below_drew1) | exact HB.out)⟩⟩
  case rest =>
    clear HC4
    try clear c1
    try clear c2
    try clear p2
    try clear c4
    try clear p4
    try clear q4
    try clear hx4
    try clear qi4
    try clear c5
    try clear c5b0
    try clear c5b1
    try clear c6
    try clear c7
    try clear c7b0
    try clear c7b1
    try clear c8
    try clear c8b0
    try clear c9
    try clear c9b0
    try clear c9b1
    try clear c10
    try clear c10b0
    try clear c11
    try clear c11b0
    try clear c12
    try clear c12b0
    try clear hx496_0
    try clear hx497_0
    try clear p496
    try clear p497
    try clear q496
    try clear q497
    obtain ⟨kq, x51_3, rfl, HA, HJ3, HB⟩ := hcut
    cases kq with
    | zero => exact absurd HA.out (by simp [codewrightlaw34_BoundsBinary.j0])
    | succ kj3 =>
      have H := HA.out
      clear HA
      simp only [codewrightlaw34_BoundsBinary.j0] at H
      by_cases c14 : x51_3 = true
      · subst c14
        have H1 : (some true) = some r := by rw [if_pos rfl] at H; exact H
        clear H
        have H := H1
        clear H1
        obtain rfl := Option.some.inj H
        go_wp2
        go_ret
        exact ⟨by first | rfl | (simp [errW_none, errW_some] <;> rfl) | (simp [*, errW_none, errW_some] <;> rfl), by repeat (first | (with_reducible first | exact HB.out | apply below_alloc | apply pw_below_drewN | apply below_drew1) | exact HB.out)⟩
      · replace c14 := Bool.eq_false_iff.mpr c14
        subst c14
        have H1 : (if 0 < (l2.length : Int) then (codewrightlaw34_BoundsBinary.l0 kj3 a0 a1 l2 ((rd_L1 l2 0).length : Int) 0 0) else (none)) = some r := by rw [if_neg (show ¬ (false = true) by decide)] at H; exact H
        clear H
        have H := H1
        clear H1
        by_cases c15 : 0 < (l2.length : Int)
        · rw [if_pos c15] at H
          have c15b0 : decide (0 < (l2.length : Int)) = true := decide_eq_true c15
          have c15b1 : decide (0 < l2.length) = true := decide_eq_true (by omega)
          clear c15
          have H' := Aside0.mk H
          clear H
          have p499 : 0 ≤ (0 : Int) := (by omega)
          have q499 : 0 < (l2.length : Int) := of_decide_eq_true (by first | (with_reducible assumption) | assumption)
          obtain ⟨ad499, A499_0, c499_0, e499, hx499_0, hl499_0, hi499_0⟩ := at_L1 HR2.out 0 p499 q499
          cases e499
          have qi499 : (0 < l2.length) = True := eq_true (by omega)
          (try rw [show ((0 : Int)).toNat = 0 from rfl] at hx499_0)
          (try rw [Addr.add_zero'] at hx499_0)
          replace hx499_0 := (HB.out.cell (World.block_lt_of_cell? w _ hx499_0)).trans hx499_0
          have HR499_0 := Aside0.mk hi499_0
          have HC499_0 := Aside0.mk hl499_0
          clear hi499_0 hl499_0
          replace p499 := eq_true p499
          replace q499 := eq_true q499
          go_wp2
          go_loopg [8, 9] kj3 (fun kq v8 v9 w' => ∃ (x8_2 : Int) (x9_2 : Int), v8 = .int .i64 x8_2 ∧ v9 = .int .i64 x9_2 ∧ Aside0 (codewrightlaw34_BoundsBinary.l0 kq a0 a1 l2 ((rd_L1 l2 0).length : Int) x8_2 x9_2 = some r) ∧ Aside0 (kq ≤ kj3) ∧ Aside0 (Below w.heap.size w w'))
          case atStart => exact ⟨(0), (0), (by first | rfl | (simp; done) | (simp [*]; done)), (by first | rfl | (simp; done) | (simp [*]; done)), H', ⟨Nat.le_refl _⟩, ⟨by repeat (first | (with_reducible first | exact HB.out | apply below_alloc | apply pw_below_drewN | apply below_drew1) | exact HB.out)⟩⟩
          case round =>
            clear H'
            try clear c1
            try clear c2
            try clear p2
            try clear c4
            try clear p4
            try clear q4
            try clear hx4
            try clear qi4
            try clear c5
            try clear c5b0
            try clear c5b1
            try clear c6
            try clear c7
            try clear c7b0
            try clear c7b1
            try clear c8
            try clear c8b0
            try clear c9
            try clear c9b0
            try clear c9b1
            try clear c10
            try clear c10b0
            try clear c11
            try clear c11b0
            try clear c12
            try clear c12b0
            try clear c14
            try clear c15
            try clear c15b0
            try clear c15b1
            try clear hx496_0
            try clear hx497_0
            try clear hx499_0
            try clear p2
            try clear p4
            try clear p496
            try clear p497
            try clear p499
            try clear q4
            try clear q496
            try clear q497
            try clear q499
            obtain ⟨x8_2, x9_2, rfl, rfl, HA, HK2, HB⟩ := hrel
            cases gk with
            | zero => exact absurd HA.out (by simp [codewrightlaw34_BoundsBinary.l0])
            | succ k2 =>
              have H := HA.out
              clear HA
              simp only [codewrightlaw34_BoundsBinary.l0] at H
              by_cases c16 : x9_2 < (l2.length : Int)
              · rw [if_pos c16] at H
                have c16b0 : decide (x9_2 < (l2.length : Int)) = true := decide_eq_true c16
                clear c16
                by_cases c17 : 0 ≤ x9_2
                · rw [if_pos c17] at H
                  have c17b0 : decide (0 ≤ x9_2) = true := decide_eq_true c17
                  clear c17
                  by_cases c18 : 0 ≤ ((rd_L1 l2 0).length : Int)
                  · rw [if_pos c18] at H
                    have c18b0 := eq_true c18
                    have c18b1 : decide (0 ≤ ((rd_L1 l2 0).length : Int)) = true := decide_eq_true c18
                    clear c18
                    by_cases c19 : (((rd_L1 l2 0).length : Int) : Int).toNat ≤ 35184372088832
                    · rw [if_pos c19] at H
                      have c19b0 := eq_true c19
                      have c19b1 : decide ((((rd_L1 l2 0).length : Int) : Int).toNat ≤ 35184372088832) = true := decide_eq_true c19
                      clear c19
                      obtain ⟨y501, hy501⟩ : ∃ y_ : List Int, y_ = (List.replicate (((rd_L1 l2 0).length : Int) : Int).toNat 0) := ⟨_, rfl⟩
                      replace H : ((codewrightref24_Distance.f k2 (rd_L1 l2 x9_2) y501).bind fun t504 => (if t504 = a1 then (codewrightlaw34_BoundsBinary.l0 k2 a0 a1 l2 ((rd_L1 l2 0).length : Int) (wrap64 (x8_2 + 1)) (wrap64 (x9_2 + 1))) else (codewrightlaw34_BoundsBinary.l0 k2 a0 a1 l2 ((rd_L1 l2 0).length : Int) x8_2 (wrap64 (x9_2 + 1))))) = some r := by first | (rw [hy501]; with_reducible exact H) | (have H2_ := (Option.bind_some _ _).symm.trans H; rw [hy501]; with_reducible exact H2_) | (have H2_ := (Option.bind_some _ _).symm.trans H; with_reducible exact H2_) | with_reducible exact H | (rw [hy501]; exact H) | exact H
                      have Ny501 := Aside0.mk hy501
                      clear hy501
                      replace H := Option.bind_eq_some_iff.mp H
                      obtain ⟨t504, A200, H⟩ := H
                      replace H : (if t504 = a1 then (codewrightlaw34_BoundsBinary.l0 k2 a0 a1 l2 ((rd_L1 l2 0).length : Int) (wrap64 (x8_2 + 1)) (wrap64 (x9_2 + 1))) else (codewrightlaw34_BoundsBinary.l0 k2 a0 a1 l2 ((rd_L1 l2 0).length : Int) x8_2 (wrap64 (x9_2 + 1)))) = some r := H
                      have A20 := Aside0.mk A200
                      clear A200
                      by_cases c21 : t504 = a1
                      · rw [if_pos c21] at H
                        have c21b0 : (t504 == a1) = true := beq_iff_eq.mpr c21
                        have c21b1 : (t504 != a1) = false := bne_eq_false_iff_eq.mpr c21
                        clear c21
                        have H' := Aside0.mk H
                        clear H
                        try go_wp2
                        have n0_ := Aside0.mk (below_drew1 HB.out)
                        clear HB
                        have HB := n0_
                        clear n0_
                        have p500 : 0 ≤ (x9_2 : Int) := of_decide_eq_true (by first | (with_reducible assumption) | assumption)
                        have q500 : x9_2 < (l2.length : Int) := of_decide_eq_true (by first | (with_reducible assumption) | assumption)
                        obtain ⟨ad500, A500_0, c500_0, e500, hx500_0, hl500_0, hi500_0⟩ := at_L1 HR2.out x9_2 p500 q500
                        have hw500_0 := hx500_0
                        obtain rfl : ad499 = ad500 := (by injection e500)
                        replace hx500_0 := (HB.out.cell (World.block_lt_of_cell? w _ hx500_0)).trans hx500_0
                        have HR500_0 := Aside0.mk hi500_0
                        have HC500_0 := Aside0.mk hl500_0
                        clear hi500_0 hl500_0
                        replace p500 := eq_true p500
                        replace q500 := eq_true q500
                        refine start_ (n := 9) (S := fun w' => w'.cell? (ad499.add (x9_2).toNat) = some (.slice A500_0 (rd_L1 l2 x9_2).length c500_0)) (ds := []) #[false, false, false, false, false, false, false, false, false] (by kernel_rfl) rfl rfl (((HB.out.cell (World.block_lt_of_cell? w _ hw500_0)).trans hw500_0)) (fun hHeld => ?_); refine with_tabW codewrightlaw34_BoundsBinary.tab8 codewrightlaw34_BoundsBinary.bits8 (fun HT_ HW_ => ?_)
                        generalize wr.drew = w22 at HB HR500_0 hx500_0 hHeld ⊢
                        refine pure_ (i := 0) (N := some 62) (v := ?_) (a' := ?_) #[true, false, false, false, false, false, false, false, false] rfl rfl (any_of HT_.out (by kernel_rfl)) (fun _ _ _ h => h) (Or.inl ⟨by rfl, ?_⟩) ?_ ?_
                        rotate_left
                        · intro w'
                          go_simp
                          with_reducible rfl
                        rotate_left
                        · simp only [Act.put, List.setIfInBounds_toArray, List.set_cons_zero, List.set_cons_succ, i64_w, i32_w]
                          rfl
                        refine pure_ (i := 1) (N := some 63) (v := ?_) (a' := ?_) #[true, true, false, false, false, false, false, false, false] rfl rfl (any_of HT_.out (by kernel_rfl)) (fun _ _ _ h => h) (Or.inl ⟨by rfl, ?_⟩) ?_ ?_
                        rotate_left
                        · intro w'
                          go_simp
                          with_reducible rfl
                        rotate_left
                        · simp only [Act.put, List.setIfInBounds_toArray, List.set_cons_zero, List.set_cons_succ, i64_w, i32_w]
                          rfl
                        refine pure_ (i := 2) (N := some 64) (v := ?_) (a' := ?_) #[true, true, true, false, false, false, false, false, false] rfl rfl (any_of HT_.out (by kernel_rfl)) (fun _ _ _ h => h) (Or.inl ⟨by rfl, ?_⟩) ?_ ?_
                        rotate_left
                        · intro w'
                          go_simp
                          with_reducible rfl
                        rotate_left
                        · simp only [Act.put, List.setIfInBounds_toArray, List.set_cons_zero, List.set_cons_succ, i64_w, i32_w]
                          rfl
                        refine pure_ (i := 4) (N := some 66) (v := ?_) (a' := ?_) #[true, true, true, false, true, false, false, false, false] rfl rfl (any_of HT_.out (by kernel_rfl)) (fun _ _ _ h => h) (Or.inl ⟨by rfl, ?_⟩) ?_ ?_
                        rotate_left
                        · intro w'
                          go_simp
                          with_reducible rfl
                        rotate_left
                        · simp only [Act.put, List.setIfInBounds_toArray, List.set_cons_zero, List.set_cons_succ, i64_w, i32_w]
                          rfl
                        refine pure_ (i := 7) (N := some 69) (v := ?_) (a' := ?_) #[true, true, true, false, true, false, false, true, false] rfl rfl (any_of HT_.out (by kernel_rfl)) (fun _ _ _ h => h) (Or.inl ⟨by rfl, ?_⟩) ?_ ?_
                        rotate_left
                        · intro w'
                          go_simp
                          with_reducible rfl
                        rotate_left
                        · simp only [Act.put, List.setIfInBounds_toArray, List.set_cons_zero, List.set_cons_succ, i64_w, i32_w]
                          rfl
                        refine take_ (i := 3) (N := some 65) (v := ?_) (a' := ?_) #[true, true, true, true, true, false, false, true, false] rfl rfl (take_ofW HT_.out HW_.out (by kernel_rfl)) (fun _ _ _ h => h) (Or.inl ⟨by rfl, ?_⟩) hHeld ?_ ?_
                        rotate_left
                        · intro w' s0
                          go_simp
                          with_reducible rfl
                        rotate_left
                        · simp only [Act.put, List.setIfInBounds_toArray, List.set_cons_zero, List.set_cons_succ, i64_w, i32_w]
                          rfl
                        refine one_ (i := 5) (N := some 67) #[true, true, true, true, true, true, false, true, false] rfl rfl (one_of HT_.out (by kernel_rfl)) (by decide) (fun K hK => ?_)
                        refine Kd.R_make_step (Kd.int .i64) _ 3 (by rfl) (N := 67) rfl 22 _ _ rfl ((rd_L1 l2 0).length : Int) rfl rfl Try.underlying22 (.int .i64 0) 8 info3 rfl (by decide) (by omega) 0 (ok := fun _ => True) (okp := fun _ => True) rfl (fun _ hk => hk) trivial (of_decide_eq_true (by first | (with_reducible assumption) | assumption)) (Nat.le_trans (Nat.mul_le_mul_right _ (of_decide_eq_true (by first | (with_reducible assumption) | assumption) : ((rd_L1 l2 0).length : Int).toNat ≤ 35184372088832)) (by omega)) (Below.refl _ _) (Nat.le_refl _) ?_
                        intro v502 w23 ho24 hb hg_ hnew_
                        clear hg_ hnew_
                        (first | rw [← Ny501.out] at ho24 | (simp only [Int.reduceToNat] at ho24; rw [← Ny501.out] at ho24))
                        have n0_ := Aside0.mk (Kd.R_lower ho24 (below_size (by repeat (first | (with_reducible first | exact HB.out | apply below_alloc | apply pw_below_drewN | apply below_drew1) | exact HB.out))))
                        have n1_ := Aside0.mk (below_step (by repeat (first | (with_reducible first | exact HB.out | apply below_alloc | apply pw_below_drewN | apply below_drew1) | exact HB.out)) hb)
                        clear HB
                        have HO503 := n0_
                        have HB := n1_
                        clear n0_ n1_
                        clear hb ho24
                        obtain ⟨Ao25, co25, eo25⟩ := Kd.R_slice HO503.out
                        (first | subst eo25 | (injection eo25 with f1_ f2_ f3_; have f4_ := f1_.symm; have f5_ := f3_.symm; clear f1_ f2_ f3_; subst f4_; subst f5_))
                        refine hK.out _ _ (((HB.out.cell (World.block_lt_of_cell? w _ hw500_0)).trans hw500_0)) (fun hHeld => ?_)
                        clear hK K
                        refine norm_ (a' := ?_) ?_ ?_
                        rotate_left
                        · show Act.put _ (some 67) _ = _
                          simp only [Act.put, List.setIfInBounds_toArray, List.set_cons_zero, List.set_cons_succ, i64_w, i32_w]
                          rfl
                        refine one_ (i := 6) (N := some 68) #[true, true, true, true, true, true, true, true, false] rfl rfl (one_of HT_.out (by kernel_rfl)) (by decide) (fun K hK => ?_)
                        refine goes_ Try.func14 (by kernel_rfl) rfl #[.slice A500_0 (rd_L1 l2 x9_2).length c500_0, .slice Ao25 y501.length co25] (by rfl) rfl rfl (by (try simp only [List.map_toArray, List.map_cons, List.map_nil]); first | done | rfl | (simp only [List.length_drop, List.length_take]; rfl)) ?_
                        with_reducible refine (codewrightref24_Distance.calls k2 _ _ (rd_L1 l2 x9_2) _ _ y501 t504 _ ?side1 ?side2 ?side3 ?side4 A20.out).mono ?_
                        (case side1 => repeat (first | exact (Kd.C_below HR500_0.out HB.out) | (with_reducible refine Kd.C_alloc ?_ _) | (with_reducible refine Kd.C_drewN ?_ _) | (with_reducible refine Kd.C_drew ?_)))
                        (case side2 => exact HC500_0.out)
                        (case side3 => repeat (first | exact (Kd.R_reads' HO503.out).2.2 | (with_reducible refine Kd.C_alloc ?_ _) | (with_reducible refine Kd.C_drewN ?_ _) | (with_reducible refine Kd.C_drew ?_)))
                        (case side4 => exact (Kd.R_reads' HO503.out).2.1)
                        rintro e w' ⟨rfl, ⟨nd, rfl⟩⟩
                        refine ⟨_, rfl, ?_⟩
                        refine hK.out _ _ (((HB.out.cell (World.block_lt_of_cell? w _ hw500_0)).trans hw500_0)) (fun hHeld => ?_)
                        clear hK K
                        refine norm_ (a' := ?_) ?_ ?_
                        rotate_left
                        · show Act.put _ (some 68) _ = _
                          simp only [Act.put, List.setIfInBounds_toArray, List.set_cons_zero, List.set_cons_succ, i64_w, i32_w]
                          rfl
                        refine pure_ (i := 8) (N := some 70) (v := ?_) (a' := ?_) #[true, true, true, true, true, true, true, true, true] rfl rfl (any_of HT_.out (by kernel_rfl)) (fun _ _ _ h => h) (Or.inl ⟨by rfl, ?_⟩) ?_ ?_
                        rotate_left
                        · intro w'
                          go_simp
                          with_reducible rfl
                        rotate_left
                        · simp only [Act.put, List.setIfInBounds_toArray, List.set_cons_zero, List.set_cons_succ, i64_w, i32_w]
                          rfl
                        refine done_ (done_of HT_.out (by kernel_rfl)) ?_
                        try go_wp2
                        go_roundg k2
                        case measure => have := HJ3.out; have := HK2.out; omega
                        case rel => exact ⟨(wrap64 (x8_2 + 1)), (wrap64 (x9_2 + 1)), (by first | rfl | (simp; done) | (simp [*]; done)), (by first | rfl | (simp; done) | (simp [*]; done)), H', ⟨by have := HJ3.out; have := HK2.out; omega⟩, ⟨by repeat (first | (with_reducible first | exact HB.out | apply below_alloc | apply pw_below_drewN | apply below_drew1) | exact HB.out)⟩⟩
                      · rw [if_neg c21] at H
                        have c21b0 : (t504 == a1) = false := beq_eq_false_iff_ne.mpr c21
                        have c21b1 : (t504 != a1) = true := bne_iff_ne.mpr c21
                        have H' := Aside0.mk H
                        clear H
                        try go_wp2
                        have n0_ := Aside0.mk (below_drew1 HB.out)
                        clear HB
                        have HB := n0_
                        clear n0_
                        have p500 : 0 ≤ (x9_2 : Int) := of_decide_eq_true (by first | (with_reducible assumption) | assumption)
                        have q500 : x9_2 < (l2.length : Int) := of_decide_eq_true (by first | (with_reducible assumption) | assumption)
                        obtain ⟨ad500, A500_0, c500_0, e500, hx500_0, hl500_0, hi500_0⟩ := at_L1 HR2.out x9_2 p500 q500
                        have hw500_0 := hx500_0
                        obtain rfl : ad499 = ad500 := (by injection e500)
                        replace hx500_0 := (HB.out.cell (World.block_lt_of_cell? w _ hx500_0)).trans hx500_0
                        have HR500_0 := Aside0.mk hi500_0
                        have HC500_0 := Aside0.mk hl500_0
                        clear hi500_0 hl500_0
                        replace p500 := eq_true p500
                        replace q500 := eq_true q500
                        refine start_ (n := 9) (S := fun w' => w'.cell? (ad499.add (x9_2).toNat) = some (.slice A500_0 (rd_L1 l2 x9_2).length c500_0)) (ds := []) #[false, false, false, false, false, false, false, false, false] (by kernel_rfl) rfl rfl (((HB.out.cell (World.block_lt_of_cell? w _ hw500_0)).trans hw500_0)) (fun hHeld => ?_); refine with_tabW codewrightlaw34_BoundsBinary.tab8 codewrightlaw34_BoundsBinary.bits8 (fun HT_ HW_ => ?_)
                        generalize wr.drew = w26 at HB HR500_0 hx500_0 hHeld ⊢
                        refine pure_ (i := 0) (N := some 62) (v := ?_) (a' := ?_) #[true, false, false, false, false, false, false, false, false] rfl rfl (any_of HT_.out (by kernel_rfl)) (fun _ _ _ h => h) (Or.inl ⟨by rfl, ?_⟩) ?_ ?_
                        rotate_left
                        · intro w'
                          go_simp
                          with_reducible rfl
                        rotate_left
                        · simp only [Act.put, List.setIfInBounds_toArray, List.set_cons_zero, List.set_cons_succ, i64_w, i32_w]
                          rfl
                        refine pure_ (i := 1) (N := some 63) (v := ?_) (a' := ?_) #[true, true, false, false, false, false, false, false, false] rfl rfl (any_of HT_.out (by kernel_rfl)) (fun _ _ _ h => h) (Or.inl ⟨by rfl, ?_⟩) ?_ ?_
                        rotate_left
                        · intro w'
                          go_simp
                          with_reducible rfl
                        rotate_left
                        · simp only [Act.put, List.setIfInBounds_toArray, List.set_cons_zero, List.set_cons_succ, i64_w, i32_w]
                          rfl
                        refine pure_ (i := 2) (N := some 64) (v := ?_) (a' := ?_) #[true, true, true, false, false, false, false, false, false] rfl rfl (any_of HT_.out (by kernel_rfl)) (fun _ _ _ h => h) (Or.inl ⟨by rfl, ?_⟩) ?_ ?_
                        rotate_left
                        · intro w'
                          go_simp
                          with_reducible rfl
                        rotate_left
                        · simp only [Act.put, List.setIfInBounds_toArray, List.set_cons_zero, List.set_cons_succ, i64_w, i32_w]
                          rfl
                        refine pure_ (i := 4) (N := some 66) (v := ?_) (a' := ?_) #[true, true, true, false, true, false, false, false, false] rfl rfl (any_of HT_.out (by kernel_rfl)) (fun _ _ _ h => h) (Or.inl ⟨by rfl, ?_⟩) ?_ ?_
                        rotate_left
                        · intro w'
                          go_simp
                          with_reducible rfl
                        rotate_left
                        · simp only [Act.put, List.setIfInBounds_toArray, List.set_cons_zero, List.set_cons_succ, i64_w, i32_w]
                          rfl
                        refine pure_ (i := 7) (N := some 69) (v := ?_) (a' := ?_) #[true, true, true, false, true, false, false, true, false] rfl rfl (any_of HT_.out (by kernel_rfl)) (fun _ _ _ h => h) (Or.inl ⟨by rfl, ?_⟩) ?_ ?_
                        rotate_left
                        · intro w'
                          go_simp
                          with_reducible rfl
                        rotate_left
                        · simp only [Act.put, List.setIfInBounds_toArray, List.set_cons_zero, List.set_cons_succ, i64_w, i32_w]
                          rfl
                        refine take_ (i := 3) (N := some 65) (v := ?_) (a' := ?_) #[true, true, true, true, true, false, false, true, false] rfl rfl (take_ofW HT_.out HW_.out (by kernel_rfl)) (fun _ _ _ h => h) (Or.inl ⟨by rfl, ?_⟩) hHeld ?_ ?_
                        rotate_left
                        · intro w' s0
                          go_simp
                          with_reducible rfl
                        rotate_left
                        · simp only [Act.put, List.setIfInBounds_toArray, List.set_cons_zero, List.set_cons_succ, i64_w, i32_w]
                          rfl
                        refine one_ (i := 5) (N := some 67) #[true, true, true, true, true, true, false, true, false] rfl rfl (one_of HT_.out (by kernel_rfl)) (by decide) (fun K hK => ?_)
                        refine Kd.R_make_step (Kd.int .i64) _ 3 (by rfl) (N := 67) rfl 22 _ _ rfl ((rd_L1 l2 0).length : Int) rfl rfl Try.underlying22 (.int .i64 0) 8 info3 rfl (by decide) (by omega) 0 (ok := fun _ => True) (okp := fun _ => True) rfl (fun _ hk => hk) trivial (of_decide_eq_true (by first | (with_reducible assumption) | assumption)) (Nat.le_trans (Nat.mul_le_mul_right _ (of_decide_eq_true (by first | (with_reducible assumption) | assumption) : ((rd_L1 l2 0).length : Int).toNat ≤ 35184372088832)) (by omega)) (Below.refl _ _) (Nat.le_refl _) ?_
                        intro v502 w27 ho28 hb hg_ hnew_
                        clear hg_ hnew_
                        (first | rw [← Ny501.out] at ho28 | (simp only [Int.reduceToNat] at ho28; rw [← Ny501.out] at ho28))
                        have n0_ := Aside0.mk (Kd.R_lower ho28 (below_size (by repeat (first | (with_reducible first | exact HB.out | apply below_alloc | apply pw_below_drewN | apply below_drew1) | exact HB.out))))
                        have n1_ := Aside0.mk (below_step (by repeat (first | (with_reducible first | exact HB.out | apply below_alloc | apply pw_below_drewN | apply below_drew1) | exact HB.out)) hb)
                        clear HB
                        have HO503 := n0_
                        have HB := n1_
                        clear n0_ n1_
                        clear hb ho28
                        obtain ⟨Ao29, co29, eo29⟩ := Kd.R_slice HO503.out
                        (first | subst eo29 | (injection eo29 with f1_ f2_ f3_; have f4_ := f1_.symm; have f5_ := f3_.symm; clear f1_ f2_ f3_; subst f4_; subst f5_))
                        refine hK.out _ _ (((HB.out.cell (World.block_lt_of_cell? w _ hw500_0)).trans hw500_0)) (fun hHeld => ?_)
                        clear hK K
                        refine norm_ (a' := ?_) ?_ ?_
                        rotate_left
                        · show Act.put _ (some 67) _ = _
                          simp only [Act.put, List.setIfInBounds_toArray, List.set_cons_zero, List.set_cons_succ, i64_w, i32_w]
                          rfl
                        refine one_ (i := 6) (N := some 68) #[true, true, true, true, true, true, true, true, false] rfl rfl (one_of HT_.out (by kernel_rfl)) (by decide) (fun K hK => ?_)
                        refine goes_ Try.func14 (by kernel_rfl) rfl #[.slice A500_0 (rd_L1 l2 x9_2).length c500_0, .slice Ao29 y501.length co29] (by rfl) rfl rfl (by (try simp only [List.map_toArray, List.map_cons, List.map_nil]); first | done | rfl | (simp only [List.length_drop, List.length_take]; rfl)) ?_
                        with_reducible refine (codewrightref24_Distance.calls k2 _ _ (rd_L1 l2 x9_2) _ _ y501 t504 _ ?side1 ?side2 ?side3 ?side4 A20.out).mono ?_
                        (case side1 => repeat (first | exact (Kd.C_below HR500_0.out HB.out) | (with_reducible refine Kd.C_alloc ?_ _) | (with_reducible refine Kd.C_drewN ?_ _) | (with_reducible refine Kd.C_drew ?_)))
                        (case side2 => exact HC500_0.out)
                        (case side3 => repeat (first | exact (Kd.R_reads' HO503.out).2.2 | (with_reducible refine Kd.C_alloc ?_ _) | (with_reducible refine Kd.C_drewN ?_ _) | (with_reducible refine Kd.C_drew ?_)))
                        (case side4 => exact (Kd.R_reads' HO503.out).2.1)
                        rintro e w' ⟨rfl, ⟨nd, rfl⟩⟩
                        refine ⟨_, rfl, ?_⟩
                        refine hK.out _ _ (((HB.out.cell (World.block_lt_of_cell? w _ hw500_0)).trans hw500_0)) (fun hHeld => ?_)
                        clear hK K
                        refine norm_ (a' := ?_) ?_ ?_
                        rotate_left
                        · show Act.put _ (some 68) _ = _
                          simp only [Act.put, List.setIfInBounds_toArray, List.set_cons_zero, List.set_cons_succ, i64_w, i32_w]
                          rfl
                        refine pure_ (i := 8) (N := some 70) (v := ?_) (a' := ?_) #[true, true, true, true, true, true, true, true, true] rfl rfl (any_of HT_.out (by kernel_rfl)) (fun _ _ _ h => h) (Or.inl ⟨by rfl, ?_⟩) ?_ ?_
                        rotate_left
                        · intro w'
                          go_simp
                          with_reducible rfl
                        rotate_left
                        · simp only [Act.put, List.setIfInBounds_toArray, List.set_cons_zero, List.set_cons_succ, i64_w, i32_w]
                          rfl
                        refine done_ (done_of HT_.out (by kernel_rfl)) ?_
                        try go_wp2
                        go_roundg k2
                        case measure => have := HJ3.out; have := HK2.out; omega
                        case rel => exact ⟨(x8_2), (wrap64 (x9_2 + 1)), (by first | rfl | (simp; done) | (simp [*]; done)), (by first | rfl | (simp; done) | (simp [*]; done)), H', ⟨by have := HJ3.out; have := HK2.out; omega⟩, ⟨by repeat (first | (with_reducible first | exact HB.out | apply below_alloc | apply pw_below_drewN | apply below_drew1) | exact HB.out)⟩⟩
                    · rw [if_neg c19] at H
                      exact absurd H (by simp)
                  · rw [if_neg c18] at H
                    exact absurd H (by simp)
                · rw [if_neg c17] at H
                  exact absurd H (by simp)
              · rw [if_neg c16] at H
                have c16b0 : decide (x9_2 < (l2.length : Int)) = false := decide_eq_false c16
                clear c16
                replace H := Option.bind_eq_some_iff.mp H
                obtain ⟨⟨t505, t508⟩, A300, H⟩ := H
                replace H : ((bounds_Constant.f k2 ((rd_L1 l2 0).length : Int) a0 a1).bind fun bt509 => ((codewrightlaw34_holds.f k2 (l2.length : Int) t505 t508).bind fun t513 => (if t513 = true then ((codewrightlaw34_holds.f k2 x8_2 bt509.1 bt509.2).bind fun t514 => (some t514)) else (some false)))) = some r := H
                have A30 := Aside0.mk A300
                clear A300
                replace H := Option.bind_eq_some_iff.mp H
                obtain ⟨⟨t509, t512⟩, A310, H⟩ := H
                replace H : ((codewrightlaw34_holds.f k2 (l2.length : Int) t505 t508).bind fun t513 => (if t513 = true then ((codewrightlaw34_holds.f k2 x8_2 t509 t512).bind fun t514 => (some t514)) else (some false))) = some r := H
                have A31 := Aside0.mk A310
                clear A310
                replace H := Option.bind_eq_some_iff.mp H
                obtain ⟨t513, A320, H⟩ := H
                replace H : (if t513 = true then ((codewrightlaw34_holds.f k2 x8_2 t509 t512).bind fun t514 => (some t514)) else (some false)) = some r := H
                have A32 := Aside0.mk A320
                clear A320
                by_cases c33 : t513 = true
                · subst c33
                  have H1 : ((codewrightlaw34_holds.f k2 x8_2 t509 t512).bind fun t514 => (some t514)) = some r := by rw [if_pos rfl] at H; exact H
                  clear H
                  have H := H1
                  clear H1
                  replace H := Option.bind_eq_some_iff.mp H
                  obtain ⟨t514, A340, H⟩ := H
                  replace H : (some t514) = some r := H
                  have A34 := Aside0.mk A340
                  clear A340
                  obtain rfl := Option.some.inj H
                  go_wp2_with (first | ((with_reducible refine gate_callee (f := 29) rfl ?_); refine goesL_ (some 76) rfl rfl Try.func29 (by kernel_rfl) rfl #[.int .i64 ((rd_L1 l2 0).length : Int), .int .i64 a0] rfl (by (try simp only [List.map_toArray, List.map_cons, List.map_nil]); first | done | rfl | (simp only [List.length_drop, List.length_take]; rfl)) ?_; (with_reducible refine (bounds_Johnson.calls k2 ((rd_L1 l2 0).length : Int) a0 t505 t508 _ A30.out).mono ?_); rintro e w35 ⟨v506, rfl, ho0, hb⟩; refine ⟨_, rfl, ?_⟩; have n0_ := Aside0.mk (Kd.V_lower (Kd.V_mono (ok' := fun k_ => True) ho0 (fun k_ hk_ => trivial)) (below_size (by repeat (first | (with_reducible first | exact HB.out | apply below_alloc | apply pw_below_drewN | apply below_drew1) | exact HB.out)))); have n1_ := Aside0.mk (below_step (by repeat (first | (with_reducible first | exact HB.out | apply below_alloc | apply pw_below_drewN | apply below_drew1) | exact HB.out)) hb); clear HB; have HO507 := n0_; have HB := n1_; clear n0_ n1_; (try clear hb); (try clear hb2); (try clear hk); (try clear hi); (try clear ho0)) | ((with_reducible refine gate_callee (f := 30) rfl ?_); refine goesL_ (some 83) rfl rfl Try.func30 (by kernel_rfl) rfl #[.int .i64 ((rd_L1 l2 0).length : Int), .int .i64 a0, .int .i64 a1] rfl (by (try simp only [List.map_toArray, List.map_cons, List.map_nil]); first | done | rfl | (simp only [List.length_drop, List.length_take]; rfl)) ?_; (with_reducible refine (bounds_Constant.calls k2 ((rd_L1 l2 0).length : Int) a0 a1 t509 t512 _ A31.out).mono ?_); rintro e w36 ⟨v510, rfl, ho0, hb⟩; refine ⟨_, rfl, ?_⟩; have n0_ := Aside0.mk (Kd.V_below (by (with_reducible repeat (first | apply Kd.V_alloc | apply Kd.V_drewN | apply Kd.V_drew)); exact HO507.out) hb); have n1_ := Aside0.mk (Kd.V_lower (Kd.V_mono (ok' := fun k_ => True) ho0 (fun k_ hk_ => trivial)) (below_size (by repeat (first | (with_reducible first | exact HB.out | apply below_alloc | apply pw_below_drewN | apply below_drew1) | exact HB.out)))); have n2_ := Aside0.mk (below_step (by repeat (first | (with_reducible first | exact HB.out | apply below_alloc | apply pw_below_drewN | apply below_drew1) | exact HB.out)) hb); clear HO507; clear HB; have HO507 := n0_; have HO511 := n1_; have HB := n2_; clear n0_ n1_ n2_; (try clear hb); (try clear hb2); (try clear hk); (try clear hi); (try clear ho0); obtain ⟨Ao37, co37, eo37⟩ := Kd.V_slice HO507.out; subst eo37) | ((with_reducible refine gate_callee (f := 28) rfl ?_); refine goesL_ (some 90) rfl rfl Try.func28 (by kernel_rfl) rfl #[.int .i64 (l2.length : Int), .slice Ao37 t505.length co37, .int .i64 t508] rfl (by (try simp only [List.map_toArray, List.map_cons, List.map_nil]); first | done | rfl | (simp only [List.length_drop, List.length_take]; rfl)) ?_; (with_reducible refine (codewrightlaw34_holds.calls k2 (l2.length : Int) _ _ t505 t508 true _ ?side1 ?side2 A32.out).mono ?_); (case side1 => repeat (first | exact (Kd.V_reads' HO507.out).2.2 | (with_reducible refine Kd.C_alloc ?_ _) | (with_reducible refine Kd.C_drewN ?_ _) | (with_reducible refine Kd.C_drew ?_))); (case side2 => exact (Kd.V_reads' HO507.out).2.1); rintro e w38 ⟨rfl, hb⟩; refine ⟨_, rfl, ?_⟩; have n0_ := Aside0.mk (Kd.V_below (by (with_reducible repeat (first | apply Kd.V_alloc | apply Kd.V_drewN | apply Kd.V_drew)); exact HO507.out) hb); have n1_ := Aside0.mk (Kd.V_below (by (with_reducible repeat (first | apply Kd.V_alloc | apply Kd.V_drewN | apply Kd.V_drew)); exact HO511.out) hb); have n2_ := Aside0.mk (below_step (by repeat (first | (with_reducible first | exact HB.out | apply below_alloc | apply pw_below_drewN | apply below_drew1) | exact HB.out)) hb); clear HO507; clear HO511; clear HB; have HO507 := n0_; have HO511 := n1_; have HB := n2_; clear n0_ n1_ n2_; (try clear hb); (try clear hb2); (try clear hk); (try clear hi); obtain ⟨Ao39, co39, eo39⟩ := Kd.V_slice HO511.out; subst eo39) | (go_at_call 28; (with_reducible refine (codewrightlaw34_holds.calls k2 x8_2 _ _ t509 t512 t514 _ ?side1 ?side2 A34.out).mono ?_); (case side1 => repeat (first | exact (Kd.V_reads' HO511.out).2.2 | (with_reducible refine Kd.C_alloc ?_ _) | (with_reducible refine Kd.C_drewN ?_ _) | (with_reducible refine Kd.C_drew ?_))); (case side2 => exact (Kd.V_reads' HO511.out).2.1); rintro e w40 ⟨rfl, hb⟩; have n0_ := Aside0.mk (Kd.V_below (by (with_reducible repeat (first | apply Kd.V_alloc | apply Kd.V_drewN | apply Kd.V_drew)); exact HO507.out) hb); have n1_ := Aside0.mk (Kd.V_below (by (with_reducible repeat (first | apply Kd.V_alloc | apply Kd.V_drewN | apply Kd.V_drew)); exact HO511.out) hb); have n2_ := Aside0.mk (below_step (by repeat (first | (with_reducible first | exact HB.out | apply below_alloc | apply pw_below_drewN | apply below_drew1) | exact HB.out)) hb); clear HO507; clear HO511; clear HB; have HO507 := n0_; have HO511 := n1_; have HB := n2_; clear n0_ n1_ n2_; (try clear hb); (try clear hb2); (try clear hk); (try clear hi)))
                  go_ret
                  exact ⟨by first | rfl | (simp [errW_none, errW_some] <;> rfl) | (simp [*, errW_none, errW_some] <;> rfl), by repeat (first | (with_reducible first | exact HB.out | apply below_alloc | apply pw_below_drewN | apply below_drew1) | exact HB.out)⟩
                · replace c33 := Bool.eq_false_iff.mpr c33
                  subst c33
                  have H1 : (some false) = some r := by rw [if_neg (show ¬ (false = true) by decide)] at H; exact H
                  clear H
                  have H := H1
                  clear H1
                  obtain rfl := Option.some.inj H
                  go_wp2_with (first | ((with_reducible refine gate_callee (f := 29) rfl ?_); refine goesL_ (some 76) rfl rfl Try.func29 (by kernel_rfl) rfl #[.int .i64 ((rd_L1 l2 0).length : Int), .int .i64 a0] rfl (by (try simp only [List.map_toArray, List.map_cons, List.map_nil]); first | done | rfl | (simp only [List.length_drop, List.length_take]; rfl)) ?_; (with_reducible refine (bounds_Johnson.calls k2 ((rd_L1 l2 0).length : Int) a0 t505 t508 _ A30.out).mono ?_); rintro e w41 ⟨v506, rfl, ho0, hb⟩; refine ⟨_, rfl, ?_⟩; have n0_ := Aside0.mk (Kd.V_lower (Kd.V_mono (ok' := fun k_ => True) ho0 (fun k_ hk_ => trivial)) (below_size (by repeat (first | (with_reducible first | exact HB.out | apply below_alloc | apply pw_below_drewN | apply below_drew1) | exact HB.out)))); have n1_ := Aside0.mk (below_step (by repeat (first | (with_reducible first | exact HB.out | apply below_alloc | apply pw_below_drewN | apply below_drew1) | exact HB.out)) hb); clear HB; have HO507 := n0_; have HB := n1_; clear n0_ n1_; (try clear hb); (try clear hb2); (try clear hk); (try clear hi); (try clear ho0)) | ((with_reducible refine gate_callee (f := 30) rfl ?_); refine goesL_ (some 83) rfl rfl Try.func30 (by kernel_rfl) rfl #[.int .i64 ((rd_L1 l2 0).length : Int), .int .i64 a0, .int .i64 a1] rfl (by (try simp only [List.map_toArray, List.map_cons, List.map_nil]); first | done | rfl | (simp only [List.length_drop, List.length_take]; rfl)) ?_; (with_reducible refine (bounds_Constant.calls k2 ((rd_L1 l2 0).length : Int) a0 a1 t509 t512 _ A31.out).mono ?_); rintro e w42 ⟨v510, rfl, ho0, hb⟩; refine ⟨_, rfl, ?_⟩; have n0_ := Aside0.mk (Kd.V_below (by (with_reducible repeat (first | apply Kd.V_alloc | apply Kd.V_drewN | apply Kd.V_drew)); exact HO507.out) hb); have n1_ := Aside0.mk (Kd.V_lower (Kd.V_mono (ok' := fun k_ => True) ho0 (fun k_ hk_ => trivial)) (below_size (by repeat (first | (with_reducible first | exact HB.out | apply below_alloc | apply pw_below_drewN | apply below_drew1) | exact HB.out)))); have n2_ := Aside0.mk (below_step (by repeat (first | (with_reducible first | exact HB.out | apply below_alloc | apply pw_below_drewN | apply below_drew1) | exact HB.out)) hb); clear HO507; clear HB; have HO507 := n0_; have HO511 := n1_; have HB := n2_; clear n0_ n1_ n2_; (try clear hb); (try clear hb2); (try clear hk); (try clear hi); (try clear ho0); obtain ⟨Ao43, co43, eo43⟩ := Kd.V_slice HO507.out; subst eo43) | ((with_reducible refine gate_callee (f := 28) rfl ?_); refine goesL_ (some 90) rfl rfl Try.func28 (by kernel_rfl) rfl #[.int .i64 (l2.length : Int), .slice Ao43 t505.length co43, .int .i64 t508] rfl (by (try simp only [List.map_toArray, List.map_cons, List.map_nil]); first | done | rfl | (simp only [List.length_drop, List.length_take]; rfl)) ?_; (with_reducible refine (codewrightlaw34_holds.calls k2 (l2.length : Int) _ _ t505 t508 false _ ?side1 ?side2 A32.out).mono ?_); (case side1 => repeat (first | exact (Kd.V_reads' HO507.out).2.2 | (with_reducible refine Kd.C_alloc ?_ _) | (with_reducible refine Kd.C_drewN ?_ _) | (with_reducible refine Kd.C_drew ?_))); (case side2 => exact (Kd.V_reads' HO507.out).2.1); rintro e w44 ⟨rfl, hb⟩; refine ⟨_, rfl, ?_⟩; have n0_ := Aside0.mk (Kd.V_below (by (with_reducible repeat (first | apply Kd.V_alloc | apply Kd.V_drewN | apply Kd.V_drew)); exact HO507.out) hb); have n1_ := Aside0.mk (Kd.V_below (by (with_reducible repeat (first | apply Kd.V_alloc | apply Kd.V_drewN | apply Kd.V_drew)); exact HO511.out) hb); have n2_ := Aside0.mk (below_step (by repeat (first | (with_reducible first | exact HB.out | apply below_alloc | apply pw_below_drewN | apply below_drew1) | exact HB.out)) hb); clear HO507; clear HO511; clear HB; have HO507 := n0_; have HO511 := n1_; have HB := n2_; clear n0_ n1_ n2_; (try clear hb); (try clear hb2); (try clear hk); (try clear hi)))
                  go_ret
                  exact ⟨by first | rfl | (simp [errW_none, errW_some] <;> rfl) | (simp [*, errW_none, errW_some] <;> rfl), by repeat (first | (with_reducible first | exact HB.out | apply below_alloc | apply pw_below_drewN | apply below_drew1) | exact HB.out)⟩
        · rw [if_neg c15] at H
          exact absurd H (by simp)
end Go.Proofs.Ytjignpnnmfdedaa.PBoundsBinary
