/- A part of the print of this row, cut down to what the row uses. -/
import Derived.Test.YtjignpnnmfdedaaQBoundsBinaryx0
-- printed by a scratch copy of the print, turned (wip/tools/turn_print.py)
namespace Go.Proofs.Ytjignpnnmfdedaa.PBoundsBinary
open Go.RowKit Go.Proofs.YtjignpnnmfdedaaW.PrintWords Go.Proofs.YtjignpnnmfdedaaW.PrintLast Go.Proofs.YtjignpnnmfdedaaW.PrintMore
attribute [local go_sem] max2_int min2_int max_two min_two max_three min_three max_four min_four   -- for this text's walks alone
set_option linter.unusedVariables false
set_option linter.unusedSimpArgs false
/-! ### codewrightref24_Distance: function 14 -/
def codewrightref24_Distance.l0 : Nat → List Int → List Int → Int → Int → Option (Int)
  | 0, _, _, _, _ => none
  | k + 1, x0, x1, x5, x6 => if x6 < (x0.length : Int) then (if 0 ≤ x6 then (if x6 < (x1.length : Int) then (if (rd x0 x6) = (rd x1 x6) then (codewrightref24_Distance.l0 k x0 x1 x5 (wrap64 (x6 + 1))) else (codewrightref24_Distance.l0 k x0 x1 (wrap64 (x5 + 1)) (wrap64 (x6 + 1)))) else (none)) else (none)) else (some x5)
def codewrightref24_Distance.f (k : Nat) (l0 : List Int) (l1 : List Int) : Option (Int) := codewrightref24_Distance.l0 k l0 l1 0 0
set_option maxHeartbeats 8000000 in
set_option maxRecDepth 100000 in
theorem codewrightref24_Distance.calls (k : Nat) (A0 : Option Addr) (c0 : Nat) (l0 : List Int) (A1 : Option Addr) (c1 : Nat) (l1 : List Int) (r : Int) (w : World) (hr0 : Kd.C (Kd.int .i64) w A0 l0.length l0) (hc0 : l0.length ≤ c0) (hr1 : Kd.C (Kd.int .i64) w A1 l1.length l1) (hc1 : l1.length ≤ c1) (h : codewrightref24_Distance.f k l0 l1 = some r) :
    Calls Try.prog 14 #[.slice A0 l0.length c0, .slice A1 l1.length c1] w fun e w' => e = .returned (.int .i64 r) ∧ Drawn0 w w' := by
  have HR0 := Aside0.mk hr0
  have HC0 := Aside0.mk hc0
  clear hr0 hc0
  have HR1 := Aside0.mk hr1
  have HC1 := Aside0.mk hc1
  clear hr1 hc1
  have H : (codewrightref24_Distance.l0 k l0 l1 0 0) = some r := h
  clear h
  have H' := Aside0.mk H
  clear H
  go_enter Try.func14, Try.ntmps14
  go_wp2
  repeat (go_quiet (fail); try go_wp2)
  go_loopg [5, 6] k (fun kq v5 v6 w' => ∃ (x5_1 : Int) (x6_1 : Int), v5 = .int .i64 x5_1 ∧ v6 = .int .i64 x6_1 ∧ Aside0 (codewrightref24_Distance.l0 kq l0 l1 x5_1 x6_1 = some r) ∧ Aside0 (kq ≤ k) ∧ Drawn0 w w')
  case atStart => exact ⟨(0), (0), (by first | rfl | (simp; done) | (simp [*]; done)), (by first | rfl | (simp; done) | (simp [*]; done)), H', ⟨Nat.le_refl _⟩, by repeat (first | exact Drawn0.refl _ | apply Drawn0.step)⟩
  case round =>
    clear H'
    try clear c1
    try clear p2
    obtain ⟨x5_1, x6_1, rfl, rfl, HA, HK1, ⟨m1, rfl⟩⟩ := hrel
    cases gk with
    | zero => exact absurd HA.out (by simp [codewrightref24_Distance.l0])
    | succ k1 =>
      have H := HA.out
      clear HA
      simp only [codewrightref24_Distance.l0] at H
      by_cases c3 : x6_1 < (l0.length : Int)
      · rw [if_pos c3] at H
        have c3b0 : decide (x6_1 < (l0.length : Int)) = true := decide_eq_true c3
        clear c3
        by_cases c4 : 0 ≤ x6_1
        · rw [if_pos c4] at H
          have c4b0 : decide (0 ≤ x6_1) = true := decide_eq_true c4
          clear c4
          by_cases c5 : x6_1 < (l1.length : Int)
          · rw [if_pos c5] at H
            have c5b0 : decide (x6_1 < (l1.length : Int)) = true := decide_eq_true c5
            clear c5
            by_cases c6 : (rd l0 x6_1) = (rd l1 x6_1)
            · rw [if_pos c6] at H
              have c6b0 : ((rd l0 x6_1) == (rd l1 x6_1)) = true := beq_iff_eq.mpr c6
              have c6b1 : ((rd l0 x6_1) != (rd l1 x6_1)) = false := bne_eq_false_iff_eq.mpr c6
              clear c6
              have H' := Aside0.mk H
              clear H
              have p101 : 0 ≤ (x6_1 : Int) := of_decide_eq_true (by first | (with_reducible assumption) | assumption)
              have q101 : x6_1 < (l0.length : Int) := of_decide_eq_true (by first | (with_reducible assumption) | assumption)
              obtain ⟨ad101, e101, hx101_0⟩ := Kd.at_int HR0.out x6_1 p101 q101
              cases e101
              replace p101 := eq_true p101
              replace q101 := eq_true q101
              have p102 : 0 ≤ (x6_1 : Int) := of_decide_eq_true (by first | (with_reducible assumption) | assumption)
              have q102 : x6_1 < (l1.length : Int) := of_decide_eq_true (by first | (with_reducible assumption) | assumption)
              obtain ⟨ad102, e102, hx102_0⟩ := Kd.at_int HR1.out x6_1 p102 q102
              cases e102
              replace p102 := eq_true p102
              replace q102 := eq_true q102
              go_wp2
              repeat (go_quiet (fail); try go_wp2)
              go_roundg k1
              case measure => have := HK1.out; omega
              case rel => exact ⟨(x5_1), (wrap64 (x6_1 + 1)), (by first | rfl | (simp; done) | (simp [*]; done)), (by first | rfl | (simp; done) | (simp [*]; done)), H', ⟨by have := HK1.out; omega⟩, by repeat (first | exact Drawn0.refl _ | apply Drawn0.step)⟩
            · rw [if_neg c6] at H
              have c6b0 : ((rd l0 x6_1) == (rd l1 x6_1)) = false := beq_eq_false_iff_ne.mpr c6
              have c6b1 : ((rd l0 x6_1) != (rd l1 x6_1)) = true := bne_iff_ne.mpr c6
              have H' := Aside0.mk H
              clear H
              have p101 : 0 ≤ (x6_1 : Int) := of_decide_eq_true (by first | (with_reducible assumption) | assumption)
              have q101 : x6_1 < (l0.length : Int) := of_decide_eq_true (by first | (with_reducible assumption) | assumption)
              obtain ⟨ad101, e101, hx101_0⟩ := Kd.at_int HR0.out x6_1 p101 q101
              cases e101
              replace p101 := eq_true p101
              replace q101 := eq_true q101
              have p102 : 0 ≤ (x6_1 : Int) := of_decide_eq_true (by first | (with_reducible assumption) | assumption)
              have q102 : x6_1 < (l1.length : Int) := of_decide_eq_true (by first | (with_reducible assumption) | assumption)
              obtain ⟨ad102, e102, hx102_0⟩ := Kd.at_int HR1.out x6_1 p102 q102
              cases e102
              replace p102 := eq_true p102
              replace q102 := eq_true q102
              go_wp2
              repeat (go_quiet (fail); try go_wp2)
              go_roundg k1
              case measure => have := HK1.out; omega
              case rel => exact ⟨(wrap64 (x5_1 + 1)), (wrap64 (x6_1 + 1)), (by first | rfl | (simp; done) | (simp [*]; done)), (by first | rfl | (simp; done) | (simp [*]; done)), H', ⟨by have := HK1.out; omega⟩, by repeat (first | exact Drawn0.refl _ | apply Drawn0.step)⟩
          · rw [if_neg c5] at H
            exact absurd H (by simp)
        · rw [if_neg c4] at H
          exact absurd H (by simp)
      · rw [if_neg c3] at H
        have c3b0 : decide (x6_1 < (l0.length : Int)) = false := decide_eq_false c3
        clear c3
        obtain rfl := Option.some.inj H
        go_wp2
        repeat (go_quiet (fail); try go_wp2)
        go_ret
        exact ⟨by first | rfl | (simp; done) | (simp [*]; done), by repeat (first | exact Drawn0.refl _ | apply Drawn0.step)⟩
/-! ### codewrightref34_Words: function 22 -/
mutual
def codewrightref34_Words.j0 : Nat → Int → List (List Int) → Bool → Option (Int)
  | 0, _, _, _ => none
  | k + 1, x0, x1, x12 => if x12 = true then (some 6) else (if (x1.length : Int) = 0 then (some 11) else (if 0 < (x1.length : Int) then (if ((rd_L1 x1 0).length : Int) < 1 then (codewrightref34_Words.j1 k x0 x1 true) else (codewrightref34_Words.j1 k x0 x1 (decide (((rd_L1 x1 0).length : Int) > 64)))) else (none)))
def codewrightref34_Words.j1 : Nat → Int → List (List Int) → Bool → Option (Int)
  | 0, _, _, _ => none
  | k + 1, x0, x1, x27 => if x27 = true then (some 4) else (codewrightref34_Words.l0 k x0 x1 0)
def codewrightref34_Words.l0 : Nat → Int → List (List Int) → Int → Option (Int)
  | 0, _, _, _ => none
  | k + 1, x0, x1, x5 => if x5 < (x1.length : Int) then (if 0 ≤ x5 then (if 0 < (x1.length : Int) then (if ((rd_L1 x1 x5).length : Int) = ((rd_L1 x1 0).length : Int) then (codewrightref34_Words.l1 k x0 x1 x5 0) else (some 3)) else (none)) else (none)) else (some 0)
def codewrightref34_Words.l1 : Nat → Int → List (List Int) → Int → Int → Option (Int)
  | 0, _, _, _, _ => none
  | k + 1, x0, x1, x5, x6 => if 0 ≤ x5 then (if x5 < (x1.length : Int) then (if x6 < ((rd_L1 x1 x5).length : Int) then (if 0 ≤ x6 then (if (rd (rd_L1 x1 x5) x6) < 0 then (some 2) else (if (rd (rd_L1 x1 x5) x6) ≥ x0 then (some 2) else (codewrightref34_Words.l1 k x0 x1 x5 (wrap64 (x6 + 1))))) else (none)) else (codewrightref34_Words.l0 k x0 x1 (wrap64 (x5 + 1)))) else (none)) else (none)
end
def codewrightref34_Words.f (k : Nat) (a0 : Int) (l1 : List (List Int)) : Option (Int) := if a0 < 2 then (codewrightref34_Words.j0 k a0 l1 true) else (codewrightref34_Words.j0 k a0 l1 (decide (a0 > 256)))
set_option maxHeartbeats 8000000 in
set_option maxRecDepth 100000 in
theorem codewrightref34_Words.calls (k : Nat) (a0 : Int) (A1 : Option Addr) (c1 : Nat) (l1 : List (List Int)) (r : Int) (w : World) (hr1 : Kd.C (Kd.slice 3 (Kd.int .i64)) w A1 l1.length l1) (hc1 : l1.length ≤ c1) (h : codewrightref34_Words.f k a0 l1 = some r) :
    Calls Try.prog 22 #[.int .i64 a0, .slice A1 l1.length c1] w fun e w' => e = .returned (.int .i64 r) ∧ Drawn0 w w' := by
  have HR1 := Aside0.mk hr1
  have HC1 := Aside0.mk hc1
  clear hr1 hc1
  have H : (if a0 < 2 then (codewrightref34_Words.j0 k a0 l1 true) else (codewrightref34_Words.j0 k a0 l1 (decide (a0 > 256)))) = some r := h
  clear h
  have HC3 := Aside0.mk H
  clear H
  go_enter Try.func22, Try.ntmps22
  go_upto_region 1 with (fail)
  repeat (go_quiet (fail); go_upto_region 1 with (fail))
  go_cut [12] (fun v12 wc => ∃ (kq : Nat) (x12_2 : Bool), v12 = .bool x12_2 ∧ Aside0 (codewrightref34_Words.j0 kq a0 l1 x12_2 = some r) ∧ Aside0 (kq ≤ k) ∧ Drawn0 w wc)
  case first =>
    have H := HC3.out
    clear HC3
    by_cases c4 : a0 < 2
    · rw [if_pos c4] at H
      have c4b0 : decide (a0 < 2) = true := decide_eq_true c4
      clear c4
      (first | rw [c4b0] | (simp only [i64_w, i32_w]; rw [c4b0]) | rw [c4b1] | rw [c4b2] | skip)
      have H' := Aside0.mk H
      clear H
      go_wp2
      repeat (go_quiet (fail); try go_wp2)
      go_meet
      case rel => exact ⟨_, (true), (by first | rfl | (simp; done) | (simp [*]; done)), H', ⟨by first | omega | exact Nat.le_refl _⟩, by repeat (first | exact Drawn0.refl _ | apply Drawn0.step)⟩
    · rw [if_neg c4] at H
      have c4b0 : decide (a0 < 2) = false := decide_eq_false c4
      clear c4
      (first | rw [c4b0] | (simp only [i64_w, i32_w]; rw [c4b0]) | rw [c4b1] | rw [c4b2] | skip)
      have H' := Aside0.mk H
      clear H
      go_wp2
      repeat (go_quiet (fail); try go_wp2)
      go_meet
      case rel => exact ⟨_, (decide (a0 > 256)), (by first | rfl | (simp; done) | (simp [*]; done)), H', ⟨by first | omega | exact Nat.le_refl _⟩, by repeat (first | exact Drawn0.refl _ | apply Drawn0.step)⟩
  case rest =>
    clear HC3
    try clear c1
    try clear c2
    try clear p2
    try clear c4
    try clear c4b0
    obtain ⟨kq, x12_2, rfl, HA, HJ2, ⟨mc2, rfl⟩⟩ := hcut
    cases kq with
    | zero => exact absurd HA.out (by simp [codewrightref34_Words.j0])
    | succ kj2 =>
      have H := HA.out
      clear HA
      simp only [codewrightref34_Words.j0] at H
      by_cases c5 : x12_2 = true
      · subst c5
        have H1 : (some 6) = some r := by rw [if_pos rfl] at H; exact H
        clear H
        have H := H1
        clear H1
        obtain rfl := Option.some.inj H
        go_wp2
        repeat (go_quiet (fail); try go_wp2)
        go_ret
        exact ⟨by first | rfl | (simp; done) | (simp [*]; done), by repeat (first | exact Drawn0.refl _ | apply Drawn0.step)⟩
      · replace c5 := Bool.eq_false_iff.mpr c5
        subst c5
        have H1 : (if (l1.length : Int) = 0 then (some 11) else (if 0 < (l1.length : Int) then (if ((rd_L1 l1 0).length : Int) < 1 then (codewrightref34_Words.j1 kj2 a0 l1 true) else (codewrightref34_Words.j1 kj2 a0 l1 (decide (((rd_L1 l1 0).length : Int) > 64)))) else (none))) = some r := by rw [if_neg (show ¬ (false = true) by decide)] at H; exact H
        clear H
        have H := H1
        clear H1
        by_cases c6 : (l1.length : Int) = 0
        · rw [if_pos c6] at H
          have c6b0 : ((l1.length : Int) == 0) = true := beq_iff_eq.mpr c6
          have c6b1 : ((l1.length : Int) != 0) = false := bne_eq_false_iff_eq.mpr c6
          clear c6
          obtain rfl := Option.some.inj H
          go_wp2
          repeat (go_quiet (fail); try go_wp2)
          go_ret
          exact ⟨by first | rfl | (simp; done) | (simp [*]; done), by repeat (first | exact Drawn0.refl _ | apply Drawn0.step)⟩
        · rw [if_neg c6] at H
          have c6b0 : ((l1.length : Int) == 0) = false := beq_eq_false_iff_ne.mpr c6
          have c6b1 : ((l1.length : Int) != 0) = true := bne_iff_ne.mpr c6
          have c6b2 : ¬ (l1 = []) := fun h_ => c6 (by rw [h_]; rfl)
          have HC7 := Aside0.mk H
          clear H
          go_upto_region 5 with (fail)
          repeat (go_quiet (fail); go_upto_region 5 with (fail))
          go_cut [27] (fun v27 wc => ∃ (kq : Nat) (x27_6 : Bool), v27 = .bool x27_6 ∧ Aside0 (codewrightref34_Words.j1 kq a0 l1 x27_6 = some r) ∧ Aside0 (kq ≤ kj2) ∧ Drawn0 w wc)
          case first =>
            have H := HC7.out
            clear HC7
            by_cases c8 : 0 < (l1.length : Int)
            · rw [if_pos c8] at H
              have c8b0 : decide (0 < (l1.length : Int)) = true := decide_eq_true c8
              have c8b1 : decide (0 < l1.length) = true := decide_eq_true (by omega)
              clear c8
              (first | rw [c8b0] | (simp only [i64_w, i32_w]; rw [c8b0]) | rw [c8b1] | rw [c8b2] | skip)
              by_cases c9 : ((rd_L1 l1 0).length : Int) < 1
              · rw [if_pos c9] at H
                have c9b0 : decide (((rd_L1 l1 0).length : Int) < 1) = true := decide_eq_true c9
                have c9b1 : decide ((rd_L1 l1 0).length < 1) = true := decide_eq_true (by omega)
                clear c9
                have H' := Aside0.mk H
                clear H
                have p103 : 0 ≤ (0 : Int) := (by omega)
                have q103 : 0 < (l1.length : Int) := of_decide_eq_true (by first | (with_reducible assumption) | assumption)
                obtain ⟨ad103, A103_0, c103_0, e103, hx103_0, hl103_0, hi103_0⟩ := at_L1 HR1.out 0 p103 q103
                cases e103
                have qi103 : (0 < l1.length) = True := eq_true (by omega)
                (try rw [show ((0 : Int)).toNat = 0 from rfl] at hx103_0)
                (try rw [Addr.add_zero'] at hx103_0)
                have HR103_0 := Aside0.mk hi103_0
                have HC103_0 := Aside0.mk hl103_0
                clear hi103_0 hl103_0
                replace p103 := eq_true p103
                replace q103 := eq_true q103
                go_wp2
                repeat (go_quiet (fail); try go_wp2)
                go_meet
                case rel => exact ⟨_, (true), (by first | rfl | (simp; done) | (simp [*]; done)), H', ⟨by have := HJ2.out; first | omega | exact Nat.le_refl _⟩, by repeat (first | exact Drawn0.refl _ | apply Drawn0.step)⟩
              · rw [if_neg c9] at H
                have c9b0 : decide (((rd_L1 l1 0).length : Int) < 1) = false := decide_eq_false c9
                have c9b1 : decide ((rd_L1 l1 0).length < 1) = false := decide_eq_false (by omega)
                clear c9
                have H' := Aside0.mk H
                clear H
                have p103 : 0 ≤ (0 : Int) := (by omega)
                have q103 : 0 < (l1.length : Int) := of_decide_eq_true (by first | (with_reducible assumption) | assumption)
                obtain ⟨ad103, A103_0, c103_0, e103, hx103_0, hl103_0, hi103_0⟩ := at_L1 HR1.out 0 p103 q103
                cases e103
                have qi103 : (0 < l1.length) = True := eq_true (by omega)
                (try rw [show ((0 : Int)).toNat = 0 from rfl] at hx103_0)
                (try rw [Addr.add_zero'] at hx103_0)
                have HR103_0 := Aside0.mk hi103_0
                have HC103_0 := Aside0.mk hl103_0
                clear hi103_0 hl103_0
                replace p103 := eq_true p103
                replace q103 := eq_true q103
                have p104 : 0 ≤ (0 : Int) := (by omega)
                have q104 : 0 < (l1.length : Int) := of_decide_eq_true (by first | (with_reducible assumption) | assumption)
                obtain ⟨ad104, A104_0, c104_0, e104, hx104_0, hl104_0, hi104_0⟩ := at_L1 HR1.out 0 p104 q104
                obtain rfl : ad103 = ad104 := (by injection e104)
                have qi104 : (0 < l1.length) = True := eq_true (by omega)
                (try rw [show ((0 : Int)).toNat = 0 from rfl] at hx104_0)
                (try rw [Addr.add_zero'] at hx104_0)
                have HR104_0 := Aside0.mk hi104_0
                have HC104_0 := Aside0.mk hl104_0
                clear hi104_0 hl104_0
                replace p104 := eq_true p104
                replace q104 := eq_true q104
                have ea_ := Option.some.inj (hx103_0.symm.trans hx104_0)
                injection ea_ with ea_ en_ ec_
                subst ea_
                subst ec_
                clear en_
                go_wp2
                repeat (go_quiet (fail); try go_wp2)
                go_meet
                case rel => exact ⟨_, (decide (((rd_L1 l1 0).length : Int) > 64)), (by first | rfl | (simp; done) | (simp [*]; done)), H', ⟨by have := HJ2.out; first | omega | exact Nat.le_refl _⟩, by repeat (first | exact Drawn0.refl _ | apply Drawn0.step)⟩
            · rw [if_neg c8] at H
              exact absurd H (by simp)
          case rest =>
            clear HC7
            try clear c1
            try clear p1
            try clear q1
            try clear hx1
            try clear qi1
            try clear c2
            try clear p2
            try clear c4
            try clear c4b0
            try clear c5
            try clear c6
            try clear c6b0
            try clear c6b1
            try clear c6b2
            try clear c8
            try clear c8b0
            try clear c8b1
            try clear c9
            try clear c9b0
            try clear c9b1
            try clear hx103_0
            try clear hx104_0
            try clear p103
            try clear p104
            try clear p2
            try clear q103
            try clear q104
            obtain ⟨kq, x27_6, rfl, HA, HJ6, ⟨mc6, rfl⟩⟩ := hcut
            cases kq with
            | zero => exact absurd HA.out (by simp [codewrightref34_Words.j1])
            | succ kj6 =>
              have H := HA.out
              clear HA
              simp only [codewrightref34_Words.j1] at H
              by_cases c10 : x27_6 = true
              · subst c10
                have H1 : (some 4) = some r := by rw [if_pos rfl] at H; exact H
                clear H
                have H := H1
                clear H1
                obtain rfl := Option.some.inj H
                go_wp2
                repeat (go_quiet (fail); try go_wp2)
                go_ret
                exact ⟨by first | rfl | (simp; done) | (simp [*]; done), by repeat (first | exact Drawn0.refl _ | apply Drawn0.step)⟩
              · replace c10 := Bool.eq_false_iff.mpr c10
                subst c10
                have H1 : (codewrightref34_Words.l0 kj6 a0 l1 0) = some r := by rw [if_neg (show ¬ (false = true) by decide)] at H; exact H
                clear H
                have H := H1
                clear H1
                have H' := Aside0.mk H
                clear H
                go_wp2
                repeat (go_quiet (fail); try go_wp2)
                go_loopg [5] kj6 (fun kq v5 w' => ∃ (x5_3 : Int), v5 = .int .i64 x5_3 ∧ Aside0 (codewrightref34_Words.l0 kq a0 l1 x5_3 = some r) ∧ Aside0 (kq ≤ kj6) ∧ Drawn0 w w')
                case atStart => exact ⟨(0), (by first | rfl | (simp; done) | (simp [*]; done)), H', ⟨Nat.le_refl _⟩, by repeat (first | exact Drawn0.refl _ | apply Drawn0.step)⟩
                case round =>
                  clear H'
                  try clear c1
                  try clear p1
                  try clear q1
                  try clear hx1
                  try clear qi1
                  try clear c2
                  try clear p2
                  try clear c4
                  try clear c4b0
                  try clear c5
                  try clear c6
                  try clear c6b0
                  try clear c6b1
                  try clear c6b2
                  try clear c8
                  try clear c8b0
                  try clear c8b1
                  try clear c9
                  try clear c9b0
                  try clear c9b1
                  try clear c10
                  try clear p10
                  try clear q10
                  try clear hx10
                  try clear qi10
                  try clear hx103_0
                  try clear hx104_0
                  try clear p1
                  try clear p103
                  try clear p104
                  try clear p2
                  try clear q1
                  try clear q103
                  try clear q104
                  obtain ⟨x5_3, rfl, HA, HK3, ⟨m3, rfl⟩⟩ := hrel
                  cases gk with
                  | zero => exact absurd HA.out (by simp [codewrightref34_Words.l0])
                  | succ k3 =>
                    have H := HA.out
                    clear HA
                    simp only [codewrightref34_Words.l0] at H
                    by_cases c11 : x5_3 < (l1.length : Int)
                    · rw [if_pos c11] at H
                      have c11b0 : decide (x5_3 < (l1.length : Int)) = true := decide_eq_true c11
                      clear c11
                      by_cases c12 : 0 ≤ x5_3
                      · rw [if_pos c12] at H
                        have c12b0 : decide (0 ≤ x5_3) = true := decide_eq_true c12
                        clear c12
                        by_cases c13 : 0 < (l1.length : Int)
                        · rw [if_pos c13] at H
                          have c13b0 : decide (0 < (l1.length : Int)) = true := decide_eq_true c13
                          have c13b1 : decide (0 < l1.length) = true := decide_eq_true (by omega)
                          clear c13
                          by_cases c14 : ((rd_L1 l1 x5_3).length : Int) = ((rd_L1 l1 0).length : Int)
                          · rw [if_pos c14] at H
                            have c14b0 : (((rd_L1 l1 x5_3).length : Int) == ((rd_L1 l1 0).length : Int)) = true := beq_iff_eq.mpr c14
                            have c14b1 : (((rd_L1 l1 x5_3).length : Int) != ((rd_L1 l1 0).length : Int)) = false := bne_eq_false_iff_eq.mpr c14
                            have c14b2 : ((rd_L1 l1 x5_3).length == (rd_L1 l1 0).length) = true := by first | simpa using c14 | (simp at c14 ⊢; omega)
                            clear c14
                            have H' := Aside0.mk H
                            clear H
                            have p105 : 0 ≤ (x5_3 : Int) := of_decide_eq_true (by first | (with_reducible assumption) | assumption)
                            have q105 : x5_3 < (l1.length : Int) := of_decide_eq_true (by first | (with_reducible assumption) | assumption)
                            obtain ⟨ad105, A105_0, c105_0, e105, hx105_0, hl105_0, hi105_0⟩ := at_L1 HR1.out x5_3 p105 q105
                            cases e105
                            have HR105_0 := Aside0.mk hi105_0
                            have HC105_0 := Aside0.mk hl105_0
                            clear hi105_0 hl105_0
                            replace p105 := eq_true p105
                            replace q105 := eq_true q105
                            have p106 : 0 ≤ (0 : Int) := (by omega)
                            have q106 : 0 < (l1.length : Int) := of_decide_eq_true (by first | (with_reducible assumption) | assumption)
                            obtain ⟨ad106, A106_0, c106_0, e106, hx106_0, hl106_0, hi106_0⟩ := at_L1 HR1.out 0 p106 q106
                            obtain rfl : ad105 = ad106 := (by injection e106)
                            have qi106 : (0 < l1.length) = True := eq_true (by omega)
                            (try rw [show ((0 : Int)).toNat = 0 from rfl] at hx106_0)
                            (try rw [Addr.add_zero'] at hx106_0)
                            have HR106_0 := Aside0.mk hi106_0
                            have HC106_0 := Aside0.mk hl106_0
                            clear hi106_0 hl106_0
                            replace p106 := eq_true p106
                            replace q106 := eq_true q106
                            go_wp2
                            repeat (go_quiet (fail); try go_wp2)
                            go_loopg [6] k3 (fun kq v6 w' => ∃ (x6_4 : Int), v6 = .int .i64 x6_4 ∧ Aside0 (codewrightref34_Words.l1 kq a0 l1 x5_3 x6_4 = some r) ∧ Aside0 (kq ≤ k3) ∧ Drawn0 w w')
                            case atStart => exact ⟨(0), (by first | rfl | (simp; done) | (simp [*]; done)), H', ⟨Nat.le_refl _⟩, by repeat (first | exact Drawn0.refl _ | apply Drawn0.step)⟩
                            case round =>
                              clear H'
                              try clear c1
                              try clear p1
                              try clear q1
                              try clear hx1
                              try clear qi1
                              try clear c2
                              try clear p2
                              try clear c4
                              try clear c4b0
                              try clear c5
                              try clear c6
                              try clear c6b0
                              try clear c6b1
                              try clear c6b2
                              try clear c8
                              try clear c8b0
                              try clear c8b1
                              try clear c9
                              try clear c9b0
                              try clear c9b1
                              try clear c10
                              try clear p10
                              try clear q10
                              try clear hx10
                              try clear qi10
                              try clear c11
                              try clear c11b0
                              try clear c12
                              try clear c12b0
                              try clear c13
                              try clear c13b0
                              try clear c13b1
                              try clear c14
                              try clear c14b0
                              try clear c14b1
                              try clear c14b2
                              try clear hx103_0
                              try clear hx104_0
                              try clear hx105_0
                              try clear hx106_0
                              try clear p1
                              try clear p10
                              try clear p103
                              try clear p104
                              try clear p105
                              try clear p106
                              try clear p2
                              try clear q1
                              try clear q10
                              try clear q103
                              try clear q104
                              try clear q105
                              try clear q106
                              obtain ⟨x6_4, rfl, HA, HK4, ⟨m4, rfl⟩⟩ := hrel
                              cases gk with
                              | zero => exact absurd HA.out (by simp [codewrightref34_Words.l1])
                              | succ k4 =>
                                have H := HA.out
                                clear HA
                                simp only [codewrightref34_Words.l1] at H
                                by_cases c15 : 0 ≤ x5_3
                                · rw [if_pos c15] at H
                                  have c15b0 : decide (0 ≤ x5_3) = true := decide_eq_true c15
                                  clear c15
                                  by_cases c16 : x5_3 < (l1.length : Int)
                                  · rw [if_pos c16] at H
                                    have c16b0 : decide (x5_3 < (l1.length : Int)) = true := decide_eq_true c16
                                    clear c16
                                    by_cases c17 : x6_4 < ((rd_L1 l1 x5_3).length : Int)
                                    · rw [if_pos c17] at H
                                      have c17b0 : decide (x6_4 < ((rd_L1 l1 x5_3).length : Int)) = true := decide_eq_true c17
                                      clear c17
                                      by_cases c18 : 0 ≤ x6_4
                                      · rw [if_pos c18] at H
                                        have c18b0 : decide (0 ≤ x6_4) = true := decide_eq_true c18
                                        clear c18
                                        by_cases c19 : (rd (rd_L1 l1 x5_3) x6_4) < 0
                                        · rw [if_pos c19] at H
                                          have c19b0 : decide ((rd (rd_L1 l1 x5_3) x6_4) < 0) = true := decide_eq_true c19
                                          clear c19
                                          obtain rfl := Option.some.inj H
                                          have p107 : 0 ≤ (x5_3 : Int) := of_decide_eq_true (by first | (with_reducible assumption) | assumption)
                                          have q107 : x5_3 < (l1.length : Int) := of_decide_eq_true (by first | (with_reducible assumption) | assumption)
                                          obtain ⟨ad107, A107_0, c107_0, e107, hx107_0, hl107_0, hi107_0⟩ := at_L1 HR1.out x5_3 p107 q107
                                          obtain rfl : ad105 = ad107 := (by injection e107)
                                          have HR107_0 := Aside0.mk hi107_0
                                          have HC107_0 := Aside0.mk hl107_0
                                          clear hi107_0 hl107_0
                                          replace p107 := eq_true p107
                                          replace q107 := eq_true q107
                                          have p108 : 0 ≤ (x5_3 : Int) := of_decide_eq_true (by first | (with_reducible assumption) | assumption)
                                          have q108 : x5_3 < (l1.length : Int) := of_decide_eq_true (by first | (with_reducible assumption) | assumption)
                                          obtain ⟨ad108, A108_0, c108_0, e108, hx108_0, hl108_0, hi108_0⟩ := at_L1 HR1.out x5_3 p108 q108
                                          obtain rfl : ad105 = ad108 := (by injection e108)
                                          have HR108_0 := Aside0.mk hi108_0
                                          have HC108_0 := Aside0.mk hl108_0
                                          clear hi108_0 hl108_0
                                          replace p108 := eq_true p108
                                          replace q108 := eq_true q108
                                          have ea_ := Option.some.inj (hx107_0.symm.trans hx108_0)
                                          injection ea_ with ea_ en_ ec_
                                          subst ea_
                                          subst ec_
                                          clear en_
                                          have p109 : 0 ≤ (x6_4 : Int) := of_decide_eq_true (by first | (with_reducible assumption) | assumption)
                                          have q109 : x6_4 < ((rd_L1 l1 x5_3).length : Int) := of_decide_eq_true (by first | (with_reducible assumption) | assumption)
                                          obtain ⟨ad109, e109, hx109_0⟩ := Kd.at_int HR108_0.out x6_4 p109 q109
                                          cases e109
                                          replace p109 := eq_true p109
                                          replace q109 := eq_true q109
                                          go_wp2
                                          repeat (go_quiet (fail); try go_wp2)
                                          go_ret
                                          exact ⟨by first | rfl | (simp; done) | (simp [*]; done), by repeat (first | exact Drawn0.refl _ | apply Drawn0.step)⟩
                                        · rw [if_neg c19] at H
                                          have c19b0 : decide ((rd (rd_L1 l1 x5_3) x6_4) < 0) = false := decide_eq_false c19
                                          clear c19
                                          by_cases c20 : (rd (rd_L1 l1 x5_3) x6_4) ≥ a0
                                          · rw [if_pos c20] at H
                                            have c20b0 : decide (a0 ≤ (rd (rd_L1 l1 x5_3) x6_4)) = true := decide_eq_true c20
                                            clear c20
                                            obtain rfl := Option.some.inj H
                                            have p107 : 0 ≤ (x5_3 : Int) := of_decide_eq_true (by first | (with_reducible assumption) | assumption)
                                            have q107 : x5_3 < (l1.length : Int) := of_decide_eq_true (by first | (with_reducible assumption) | assumption)
                                            obtain ⟨ad107, A107_0, c107_0, e107, hx107_0, hl107_0, hi107_0⟩ := at_L1 HR1.out x5_3 p107 q107
                                            obtain rfl : ad105 = ad107 := (by injection e107)
                                            have HR107_0 := Aside0.mk hi107_0
                                            have HC107_0 := Aside0.mk hl107_0
                                            clear hi107_0 hl107_0
                                            replace p107 := eq_true p107
                                            replace q107 := eq_true q107
                                            have p108 : 0 ≤ (x5_3 : Int) := of_decide_eq_true (by first | (with_reducible assumption) | assumption)
                                            have q108 : x5_3 < (l1.length : Int) := of_decide_eq_true (by first | (with_reducible assumption) | assumption)
                                            obtain ⟨ad108, A108_0, c108_0, e108, hx108_0, hl108_0, hi108_0⟩ := at_L1 HR1.out x5_3 p108 q108
                                            obtain rfl : ad105 = ad108 := (by injection e108)
                                            have HR108_0 := Aside0.mk hi108_0
                                            have HC108_0 := Aside0.mk hl108_0
                                            clear hi108_0 hl108_0
                                            replace p108 := eq_true p108
                                            replace q108 := eq_true q108
                                            have ea_ := Option.some.inj (hx107_0.symm.trans hx108_0)
                                            injection ea_ with ea_ en_ ec_
                                            subst ea_
                                            subst ec_
                                            clear en_
                                            have p109 : 0 ≤ (x6_4 : Int) := of_decide_eq_true (by first | (with_reducible assumption) | assumption)
                                            have q109 : x6_4 < ((rd_L1 l1 x5_3).length : Int) := of_decide_eq_true (by first | (with_reducible assumption) | assumption)
                                            obtain ⟨ad109, e109, hx109_0⟩ := Kd.at_int HR108_0.out x6_4 p109 q109
                                            cases e109
                                            replace p109 := eq_true p109
                                            replace q109 := eq_true q109
                                            have p110 : 0 ≤ (x5_3 : Int) := of_decide_eq_true (by first | (with_reducible assumption) | assumption)
                                            have q110 : x5_3 < (l1.length : Int) := of_decide_eq_true (by first | (with_reducible assumption) | assumption)
                                            obtain ⟨ad110, A110_0, c110_0, e110, hx110_0, hl110_0, hi110_0⟩ := at_L1 HR1.out x5_3 p110 q110
                                            obtain rfl : ad105 = ad110 := (by injection e110)
                                            have HR110_0 := Aside0.mk hi110_0
                                            have HC110_0 := Aside0.mk hl110_0
                                            clear hi110_0 hl110_0
                                            replace p110 := eq_true p110
                                            replace q110 := eq_true q110
                                            have ea_ := Option.some.inj (hx107_0.symm.trans hx110_0)
                                            injection ea_ with ea_ en_ ec_
                                            subst ea_
                                            subst ec_
                                            clear en_
                                            have p111 : 0 ≤ (x6_4 : Int) := of_decide_eq_true (by first | (with_reducible assumption) | assumption)
                                            have q111 : x6_4 < ((rd_L1 l1 x5_3).length : Int) := of_decide_eq_true (by first | (with_reducible assumption) | assumption)
                                            obtain ⟨ad111, e111, hx111_0⟩ := Kd.at_int HR110_0.out x6_4 p111 q111
                                            cases e111
                                            replace p111 := eq_true p111
                                            replace q111 := eq_true q111
                                            go_wp2
                                            repeat (go_quiet (fail); try go_wp2)
                                            go_ret
                                            exact ⟨by first | rfl | (simp; done) | (simp [*]; done), by repeat (first | exact Drawn0.refl _ | apply Drawn0.step)⟩
                                          · rw [if_neg c20] at H
                                            have c20b0 : decide (a0 ≤ (rd (rd_L1 l1 x5_3) x6_4)) = false := decide_eq_false c20
                                            clear c20
                                            have H' := Aside0.mk H
                                            clear H
                                            have p107 : 0 ≤ (x5_3 : Int) := of_decide_eq_true (by first | (with_reducible assumption) | assumption)
                                            have q107 : x5_3 < (l1.length : Int) := of_decide_eq_true (by first | (with_reducible assumption) | assumption)
                                            obtain ⟨ad107, A107_0, c107_0, e107, hx107_0, hl107_0, hi107_0⟩ := at_L1 HR1.out x5_3 p107 q107
                                            obtain rfl : ad105 = ad107 := (by injection e107)
                                            have HR107_0 := Aside0.mk hi107_0
                                            have HC107_0 := Aside0.mk hl107_0
                                            clear hi107_0 hl107_0
                                            replace p107 := eq_true p107
                                            replace q107 := eq_true q107
                                            have p108 : 0 ≤ (x5_3 : Int) := of_decide_eq_true (by first | (with_reducible assumption) | assumption)
                                            have q108 : x5_3 < (l1.length : Int) := of_decide_eq_true (by first | (with_reducible assumption) | assumption)
                                            obtain ⟨ad108, A108_0, c108_0, e108, hx108_0, hl108_0, hi108_0⟩ := at_L1 HR1.out x5_3 p108 q108
                                            obtain rfl : ad105 = ad108 := (by injection e108)
                                            have HR108_0 := Aside0.mk hi108_0
                                            have HC108_0 := Aside0.mk hl108_0
                                            clear hi108_0 hl108_0
                                            replace p108 := eq_true p108
                                            replace q108 := eq_true q108
                                            have ea_ := Option.some.inj (hx107_0.symm.trans hx108_0)
                                            injection ea_ with ea_ en_ ec_
                                            subst ea_
                                            subst ec_
                                            clear en_
                                            have p109 : 0 ≤ (x6_4 : Int) := of_decide_eq_true (by first | (with_reducible assumption) | assumption)
                                            have q109 : x6_4 < ((rd_L1 l1 x5_3).length : Int) := of_decide_eq_true (by first | (with_reducible assumption) | assumption)
                                            obtain ⟨ad109, e109, hx109_0⟩ := Kd.at_int HR108_0.out x6_4 p109 q109
                                            cases e109
                                            replace p109 := eq_true p109
                                            replace q109 := eq_true q109
                                            have p110 : 0 ≤ (x5_3 : Int) := of_decide_eq_true (by first | (with_reducible assumption) | assumption)
                                            have q110 : x5_3 < (l1.length : Int) := of_decide_eq_true (by first | (with_reducible assumption) | assumption)
                                            obtain ⟨ad110, A110_0, c110_0, e110, hx110_0, hl110_0, hi110_0⟩ := at_L1 HR1.out x5_3 p110 q110
                                            obtain rfl : ad105 = ad110 := (by injection e110)
                                            have HR110_0 := Aside0.mk hi110_0
                                            have HC110_0 := Aside0.mk hl110_0
                                            clear hi110_0 hl110_0
                                            replace p110 := eq_true p110
                                            replace q110 := eq_true q110
                                            have ea_ := Option.some.inj (hx107_0.symm.trans hx110_0)
                                            injection ea_ with ea_ en_ ec_
                                            subst ea_
                                            subst ec_
                                            clear en_
                                            have p111 : 0 ≤ (x6_4 : Int) := of_decide_eq_true (by first | (with_reducible assumption) | assumption)
                                            have q111 : x6_4 < ((rd_L1 l1 x5_3).length : Int) := of_decide_eq_true (by first | (with_reducible assumption) | assumption)
                                            obtain ⟨ad111, e111, hx111_0⟩ := Kd.at_int HR110_0.out x6_4 p111 q111
                                            cases e111
                                            replace p111 := eq_true p111
                                            replace q111 := eq_true q111
                                            go_wp2
                                            repeat (go_quiet (fail); try go_wp2)
                                            go_roundg k4
                                            case measure => have := HJ2.out; have := HJ6.out; have := HK3.out; have := HK4.out; omega
                                            case rel => exact ⟨(wrap64 (x6_4 + 1)), (by first | rfl | (simp; done) | (simp [*]; done)), H', ⟨by have := HJ2.out; have := HJ6.out; have := HK3.out; have := HK4.out; omega⟩, by repeat (first | exact Drawn0.refl _ | apply Drawn0.step)⟩
                                      · rw [if_neg c18] at H
                                        exact absurd H (by simp)
                                    · rw [if_neg c17] at H
                                      have c17b0 : decide (x6_4 < ((rd_L1 l1 x5_3).length : Int)) = false := decide_eq_false c17
                                      clear c17
                                      have H' := Aside0.mk H
                                      clear H
                                      have p107 : 0 ≤ (x5_3 : Int) := of_decide_eq_true (by first | (with_reducible assumption) | assumption)
                                      have q107 : x5_3 < (l1.length : Int) := of_decide_eq_true (by first | (with_reducible assumption) | assumption)
                                      obtain ⟨ad107, A107_0, c107_0, e107, hx107_0, hl107_0, hi107_0⟩ := at_L1 HR1.out x5_3 p107 q107
                                      obtain rfl : ad105 = ad107 := (by injection e107)
                                      have HR107_0 := Aside0.mk hi107_0
                                      have HC107_0 := Aside0.mk hl107_0
                                      clear hi107_0 hl107_0
                                      replace p107 := eq_true p107
                                      replace q107 := eq_true q107
                                      go_wp2
                                      repeat (go_quiet (fail); try go_wp2)
                                      go_roundg k4
                                      case measure => have := HJ2.out; have := HJ6.out; have := HK3.out; have := HK4.out; omega
                                      case rel => exact ⟨(wrap64 (x5_3 + 1)), (by first | rfl | (simp; done) | (simp [*]; done)), H', ⟨by have := HJ2.out; have := HJ6.out; have := HK3.out; have := HK4.out; omega⟩, by repeat (first | exact Drawn0.refl _ | apply Drawn0.step)⟩
                                  · rw [if_neg c16] at H
                                    exact absurd H (by simp)
                                · rw [if_neg c15] at H
                                  exact absurd H (by simp)
                          · rw [if_neg c14] at H
                            have c14b0 : (((rd_L1 l1 x5_3).length : Int) == ((rd_L1 l1 0).length : Int)) = false := beq_eq_false_iff_ne.mpr c14
                            have c14b1 : (((rd_L1 l1 x5_3).length : Int) != ((rd_L1 l1 0).length : Int)) = true := bne_iff_ne.mpr c14
                            have c14b2 : ((rd_L1 l1 x5_3).length == (rd_L1 l1 0).length) = false := by first | simpa using c14 | (simp at c14 ⊢; omega)
                            obtain rfl := Option.some.inj H
                            have p105 : 0 ≤ (x5_3 : Int) := of_decide_eq_true (by first | (with_reducible assumption) | assumption)
                            have q105 : x5_3 < (l1.length : Int) := of_decide_eq_true (by first | (with_reducible assumption) | assumption)
                            obtain ⟨ad105, A105_0, c105_0, e105, hx105_0, hl105_0, hi105_0⟩ := at_L1 HR1.out x5_3 p105 q105
                            cases e105
                            have HR105_0 := Aside0.mk hi105_0
                            have HC105_0 := Aside0.mk hl105_0
                            clear hi105_0 hl105_0
                            replace p105 := eq_true p105
                            replace q105 := eq_true q105
                            have p106 : 0 ≤ (0 : Int) := (by omega)
                            have q106 : 0 < (l1.length : Int) := of_decide_eq_true (by first | (with_reducible assumption) | assumption)
                            obtain ⟨ad106, A106_0, c106_0, e106, hx106_0, hl106_0, hi106_0⟩ := at_L1 HR1.out 0 p106 q106
                            obtain rfl : ad105 = ad106 := (by injection e106)
                            have qi106 : (0 < l1.length) = True := eq_true (by omega)
                            (try rw [show ((0 : Int)).toNat = 0 from rfl] at hx106_0)
                            (try rw [Addr.add_zero'] at hx106_0)
                            have HR106_0 := Aside0.mk hi106_0
                            have HC106_0 := Aside0.mk hl106_0
                            clear hi106_0 hl106_0
                            replace p106 := eq_true p106
                            replace q106 := eq_true q106
                            go_wp2
                            repeat (go_quiet (fail); try go_wp2)
                            go_ret
                            exact ⟨by first | rfl | (simp; done) | (simp [*]; done), by repeat (first | exact Drawn0.refl _ | apply Drawn0.step)⟩
                        · rw [if_neg c13] at H
                          exact absurd H (by simp)
                      · rw [if_neg c12] at H
                        exact absurd H (by simp)
                    · rw [if_neg c11] at H
                      have c11b0 : decide (x5_3 < (l1.length : Int)) = false := decide_eq_false c11
                      clear c11
                      obtain rfl := Option.some.inj H
                      go_wp2
                      repeat (go_quiet (fail); try go_wp2)
                      go_ret
                      exact ⟨by first | rfl | (simp; done) | (simp [*]; done), by repeat (first | exact Drawn0.refl _ | apply Drawn0.step)⟩
end Go.Proofs.Ytjignpnnmfdedaa.PBoundsBinary
