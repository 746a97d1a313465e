/- A part of the print of this row, cut down to what the row uses. -/
import Derived.Test.YtjignpnnmfdedaaQBoundsBallsx0
import Derived.Test.YtjignpnnmfdedaaQBoundsBallsx8
import Derived.Test.YtjignpnnmfdedaaQBoundsBallsx9
-- printed by a scratch copy of the print, turned (wip/tools/turn_print.py)
namespace Go.Proofs.Ytjignpnnmfdedaa.PBoundsBalls
open Go.RowKit Go.Proofs.YtjignpnnmfdedaaW.PrintWords Go.Proofs.YtjignpnnmfdedaaW.PrintLast Go.Proofs.YtjignpnnmfdedaaW.PrintMore
attribute [local go_sem] max2_int min2_int max_two min_two max_three min_three max_four min_four   -- for this text's walks alone
set_option linter.unusedVariables false
set_option linter.unusedSimpArgs false
/-! ### nat_Binomial: function 99 -/
mutual
def nat_Binomial.j0 : Nat → Int → Int → Bool → Option (List Int × Int)
  | 0, _, _, _ => none
  | k + 1, x0, x1, x13 => if x13 = true then (some (([] : List Int), 6)) else (if x1 < 0 then (nat_Binomial.j1 k x0 x1 true) else (nat_Binomial.j1 k x0 x1 (decide (x1 > x0))))
def nat_Binomial.j1 : Nat → Int → Int → Bool → Option (List Int × Int)
  | 0, _, _, _ => none
  | k + 1, x0, x1, x20 => if x20 = true then (some (([] : List Int), 0)) else (nat_Binomial.l0 k x0 (([1] : List Int)) (mn x1 (wrap64 (x0 - x1))) 0)
def nat_Binomial.l0 : Nat → Int → List Int → Int → Int → Option (List Int × Int)
  | 0, _, _, _, _ => none
  | k + 1, x0, x6, x26, x27 => if x27 < x26 then ((nat_times.f k x6 (([(wrap64 (x0 - x27)) % 4294967296] : List Int))).bind fun t325 => ((nat_digit.f k t325 ((wrap64 (x27 + 1)) % 4294967296)).bind fun bt328 => (nat_Binomial.l0 k x0 bt328.1 x26 (wrap64 (x27 + 1))))) else ((nat_Trim.f k x6).bind fun t332 => (some (t332, 0)))
end
def nat_Binomial.f (k : Nat) (a0 : Int) (a1 : Int) : Option (List Int × Int) := if a0 < 0 then (nat_Binomial.j0 k a0 a1 true) else (nat_Binomial.j0 k a0 a1 (decide (a0 > 4096)))
set_option maxHeartbeats 8000000 in
set_option maxRecDepth 100000 in
theorem nat_Binomial.calls (k : Nat) (a0 : Int) (a1 : Int) (r1 : List Int) (r2 : Int) (w : World) (h : nat_Binomial.f k a0 a1 = some (r1, r2)) :
    Calls Try.prog 99 #[.int .i64 a0, .int .i64 a1] w fun e w' => ∃ v0_ : Value, e = .returned (.tuple #[v0_, .int .i64 r2]) ∧ Kd.R (Kd.int .u32) 79 w' w.heap.size (fun _ => True) v0_ r1 ∧ Below w.heap.size w w' := by
  have HB := Aside0.mk (Below.refl w.heap.size w)
  have H : (if a0 < 0 then (nat_Binomial.j0 k a0 a1 true) else (nat_Binomial.j0 k a0 a1 (decide (a0 > 4096)))) = some (r1, r2) := h
  clear h
  have HC3 := Aside0.mk H
  clear H
  go_enter Try.func99, Try.ntmps99
  go_upto_region 1 with (fail)
  go_cut [13] (fun v13 wc => ∃ (kq : Nat) (x13_2 : Bool), v13 = .bool x13_2 ∧ Aside0 (nat_Binomial.j0 kq a0 a1 x13_2 = some (r1, r2)) ∧ Aside0 (kq ≤ k) ∧ Aside0 (Below w.heap.size w wc))
  case first =>
    have H := HC3.out
    clear HC3
    by_cases c4 : a0 < 0
    · rw [if_pos c4] at H
      have c4b0 : decide (a0 < 0) = true := decide_eq_true c4
      clear c4
      (first | rw [c4b0] | (simp only [i64_w, i32_w]; rw [c4b0]) | rw [c4b1] | rw [c4b2] | skip)
      have H' := Aside0.mk H
      clear H
      go_wp2
      go_meet
      case rel => exact ⟨_, (true), (by first | rfl | (simp; done) | (simp [*]; done)), H', ⟨by first | omega | exact Nat.le_refl _⟩, ⟨by repeat (first | (with_reducible first | exact HB.out | apply below_alloc | apply pw_below_drewN | apply below_drew1) | exact HB.out)⟩⟩
    · rw [if_neg c4] at H
      have c4b0 : decide (a0 < 0) = false := decide_eq_false c4
      clear c4
      (first | rw [c4b0] | (simp only [i64_w, i32_w]; rw [c4b0]) | rw [c4b1] | rw [c4b2] | skip)
      have H' := Aside0.mk H
      clear H
      go_wp2
      go_meet
      case rel => exact ⟨_, (decide (a0 > 4096)), (by first | rfl | (simp; done) | (simp [*]; done)), H', ⟨by first | omega | exact Nat.le_refl _⟩, ⟨by repeat (first | (with_reducible first | exact HB.out | apply below_alloc | apply pw_below_drewN | apply below_drew1) | exact HB.out)⟩⟩
  case rest =>
    clear HC3
    try clear p2
    try clear c4
    try clear c4b0
    obtain ⟨kq, x13_2, rfl, HA, HJ2, HB⟩ := hcut
    cases kq with
    | zero => exact absurd HA.out (by simp [nat_Binomial.j0])
    | succ kj2 =>
      have H := HA.out
      clear HA
      simp only [nat_Binomial.j0] at H
      by_cases c5 : x13_2 = true
      · subst c5
        have H1 : (some (([] : List Int), 6)) = some (r1, r2) := by rw [if_pos rfl] at H; exact H
        clear H
        have H := H1
        clear H1
        simp only [Option.some.injEq, Prod.mk.injEq] at H
        obtain ⟨rfl, rfl⟩ := H
        go_wp2
        go_ret2
        exact ⟨_, by first | rfl | (simp [errW_none, errW_some] <;> rfl) | (simp [*, errW_none, errW_some] <;> rfl), by first | exact Kd.R_nil _ _ _ _ _ | exact Kd.N_nil _ _ _ _ _ | exact Kd.V_nil _ _ _ _ _ | exact Kd.Q_nil _ _ _ _ _ | exact Kd.S_nil _ _ _ _ _, by repeat (first | (with_reducible first | exact HB.out | apply below_alloc | apply pw_below_drewN | apply below_drew1) | exact HB.out)⟩
      · replace c5 := Bool.eq_false_iff.mpr c5
        subst c5
        have H1 : (if a1 < 0 then (nat_Binomial.j1 kj2 a0 a1 true) else (nat_Binomial.j1 kj2 a0 a1 (decide (a1 > a0)))) = some (r1, r2) := by rw [if_neg (show ¬ (false = true) by decide)] at H; exact H
        clear H
        have H := H1
        clear H1
        have HC6 := Aside0.mk H
        clear H
        go_upto_region 3 with (fail)
        go_cut [20] (fun v20 wc => ∃ (kq : Nat) (x20_5 : Bool), v20 = .bool x20_5 ∧ Aside0 (nat_Binomial.j1 kq a0 a1 x20_5 = some (r1, r2)) ∧ Aside0 (kq ≤ kj2) ∧ Aside0 (Below w.heap.size w wc))
        case first =>
          have H := HC6.out
          clear HC6
          by_cases c7 : a1 < 0
          · rw [if_pos c7] at H
            have c7b0 : decide (a1 < 0) = true := decide_eq_true c7
            clear c7
            (first | rw [c7b0] | (simp only [i64_w, i32_w]; rw [c7b0]) | rw [c7b1] | rw [c7b2] | skip)
            have H' := Aside0.mk H
            clear H
            go_wp2
            go_meet
            case rel => exact ⟨_, (true), (by first | rfl | (simp; done) | (simp [*]; done)), H', ⟨by have := HJ2.out; first | omega | exact Nat.le_refl _⟩, ⟨by repeat (first | (with_reducible first | exact HB.out | apply below_alloc | apply pw_below_drewN | apply below_drew1) | exact HB.out)⟩⟩
          · rw [if_neg c7] at H
            have c7b0 : decide (a1 < 0) = false := decide_eq_false c7
            clear c7
            (first | rw [c7b0] | (simp only [i64_w, i32_w]; rw [c7b0]) | rw [c7b1] | rw [c7b2] | skip)
            have H' := Aside0.mk H
            clear H
            go_wp2
            go_meet
            case rel => exact ⟨_, (decide (a1 > a0)), (by first | rfl | (simp; done) | (simp [*]; done)), H', ⟨by have := HJ2.out; first | omega | exact Nat.le_refl _⟩, ⟨by repeat (first | (with_reducible first | exact HB.out | apply below_alloc | apply pw_below_drewN | apply below_drew1) | exact HB.out)⟩⟩
        case rest =>
          clear HC6
          try clear p2
          try clear c4
          try clear c4b0
          try clear c5
          try clear c7
          try clear c7b0
          try clear p2
          obtain ⟨kq, x20_5, rfl, HA, HJ5, HB⟩ := hcut
          cases kq with
          | zero => exact absurd HA.out (by simp [nat_Binomial.j1])
          | succ kj5 =>
            have H := HA.out
            clear HA
            simp only [nat_Binomial.j1] at H
            by_cases c8 : x20_5 = true
            · subst c8
              have H1 : (some (([] : List Int), 0)) = some (r1, r2) := by rw [if_pos rfl] at H; exact H
              clear H
              have H := H1
              clear H1
              simp only [Option.some.injEq, Prod.mk.injEq] at H
              obtain ⟨rfl, rfl⟩ := H
              go_wp2
              go_ret2
              exact ⟨_, by first | rfl | (simp [errW_none, errW_some] <;> rfl) | (simp [*, errW_none, errW_some] <;> rfl), by first | exact Kd.R_nil _ _ _ _ _ | exact Kd.N_nil _ _ _ _ _ | exact Kd.V_nil _ _ _ _ _ | exact Kd.Q_nil _ _ _ _ _ | exact Kd.S_nil _ _ _ _ _, by repeat (first | (with_reducible first | exact HB.out | apply below_alloc | apply pw_below_drewN | apply below_drew1) | exact HB.out)⟩
            · replace c8 := Bool.eq_false_iff.mpr c8
              subst c8
              have H1 : (nat_Binomial.l0 kj5 a0 (([1] : List Int)) (mn a1 (wrap64 (a0 - a1))) 0) = some (r1, r2) := by rw [if_neg (show ¬ (false = true) by decide)] at H; exact H
              clear H
              have H := H1
              clear H1
              obtain ⟨y319, hy319⟩ : ∃ y_ : List Int, y_ = (([1] : List Int)) := ⟨_, rfl⟩
              replace H : (nat_Binomial.l0 kj5 a0 y319 (mn a1 (wrap64 (a0 - a1))) 0) = some (r1, r2) := by first | (rw [hy319]; with_reducible exact H) | (have H2_ := (Option.bind_some _ _).symm.trans H; rw [hy319]; with_reducible exact H2_) | (have H2_ := (Option.bind_some _ _).symm.trans H; with_reducible exact H2_) | with_reducible exact H | (rw [hy319]; exact H) | exact H
              have Ny319 := Aside0.mk hy319
              clear hy319
              obtain ⟨ji9, hji9⟩ : ∃ j_ : Int, (mn a1 (wrap64 (a0 - a1))) = j_ := ⟨_, rfl⟩
              replace H : (nat_Binomial.l0 kj5 a0 y319 ji9 0) = some (r1, r2) := by first | (rw [hji9] at H; exact H) | (simp only [hji9] at H ⊢; exact H)
              have hji9_ : (if (wrap64 (a0 - a1)) < a1 then (wrap64 (a0 - a1)) else a1) = ji9 := hji9
              have H' := Aside0.mk H
              clear H
              go_wp2_with (first | ((with_reducible refine gate_dst (N := 21) rfl ?_); refine Kd.R_lit (Kd.int .u32) _ 79 ?hg (N := 21) ?hd (xs := ([1] : List Int)) (inner := [.int .u32 1]) (ok := fun _ => True) (okp := fun _ => True) ?hr ?hp (fun _ hk => hk) trivial (Below.refl _ _) (Nat.le_refl _) (by simp) ?_; (case hd => rfl); (case hg => rfl); (case hr => first | (go_simp; done) | (go_simp; rfl)); (case hp => exact (Reps.one (show Kd.M (Kd.int .u32) _ _ _ 1 [.int .u32 1] from rfl) (Reps.none _ _))); intro v320 w10 ho11 hb hg_ hnew_; clear hg_ hnew_; (first | rw [← Ny319.out] at ho11 | (simp only [Int.reduceToNat] at ho11; rw [← Ny319.out] at ho11)); have n0_ := Aside0.mk (Kd.R_lower ho11 (below_size (by repeat (first | (with_reducible first | exact HB.out | apply below_alloc | apply pw_below_drewN | apply below_drew1) | exact HB.out)))); have n1_ := Aside0.mk (below_step (by repeat (first | (with_reducible first | exact HB.out | apply below_alloc | apply pw_below_drewN | apply below_drew1) | exact HB.out)) hb); clear HB; have HO321 := n0_; have HB := n1_; clear n0_ n1_; clear hb ho11))
              go_loopg [6, 27] kj5 (fun kq v6 v27 w' => ∃ (x6_3 : List Int) (x27_3 : Int), v27 = .int .i64 x27_3 ∧ Aside0 (nat_Binomial.l0 kq a0 x6_3 ji9 x27_3 = some (r1, r2)) ∧ Aside0 (kq ≤ kj5) ∧ Aside0 (Kd.V (Kd.int .u32) 79 w' w.heap.size (fun _ => True) v6 x6_3) ∧ Aside0 (Below w.heap.size w w'))
              case atStart => exact ⟨(y319), (0), (by first | rfl | (simp; done) | (simp [*]; done)), H', ⟨Nat.le_refl _⟩, ⟨Kd.R_V (by (with_reducible repeat (first | apply Kd.R_alloc | apply Kd.R_drewN | apply Kd.R_drew)); exact HO321.out)⟩, ⟨by repeat (first | (with_reducible first | exact HB.out | apply below_alloc | apply pw_below_drewN | apply below_drew1) | exact HB.out)⟩⟩
              case round =>
                clear H'
                try clear p2
                try clear c4
                try clear c4b0
                try clear c5
                try clear p6
                try clear c7
                try clear c7b0
                try clear c8
                try clear c9
                try clear p2
                obtain ⟨x6_3, x27_3, rfl, HA, HK3, HO_6, HB⟩ := hrel
                cases gk with
                | zero => exact absurd HA.out (by simp [nat_Binomial.l0])
                | succ k3 =>
                  have H := HA.out
                  clear HA
                  simp only [nat_Binomial.l0] at H
                  by_cases c12 : x27_3 < ji9
                  · rw [if_pos c12] at H
                    have c12b0 : decide (x27_3 < ji9) = true := decide_eq_true c12
                    clear c12
                    obtain ⟨y322, hy322⟩ : ∃ y_ : List Int, y_ = (([(wrap64 (a0 - x27_3)) % 4294967296] : List Int)) := ⟨_, rfl⟩
                    replace H : ((nat_times.f k3 x6_3 y322).bind fun t325 => ((nat_digit.f k3 t325 ((wrap64 (x27_3 + 1)) % 4294967296)).bind fun bt328 => (nat_Binomial.l0 k3 a0 bt328.1 ji9 (wrap64 (x27_3 + 1))))) = some (r1, r2) := by first | (rw [hy322]; with_reducible exact H) | (have H2_ := (Option.bind_some _ _).symm.trans H; rw [hy322]; with_reducible exact H2_) | (have H2_ := (Option.bind_some _ _).symm.trans H; with_reducible exact H2_) | with_reducible exact H | (rw [hy322]; exact H) | exact H
                    have Ny322 := Aside0.mk hy322
                    clear hy322
                    replace H := Option.bind_eq_some_iff.mp H
                    obtain ⟨t325, A130, H⟩ := H
                    replace H : ((nat_digit.f k3 t325 ((wrap64 (x27_3 + 1)) % 4294967296)).bind fun bt328 => (nat_Binomial.l0 k3 a0 bt328.1 ji9 (wrap64 (x27_3 + 1)))) = some (r1, r2) := H
                    have A13 := Aside0.mk A130
                    clear A130
                    replace H := Option.bind_eq_some_iff.mp H
                    obtain ⟨⟨t328, t331⟩, A140, H⟩ := H
                    replace H : (nat_Binomial.l0 k3 a0 t328 ji9 (wrap64 (x27_3 + 1))) = some (r1, r2) := H
                    have A14 := Aside0.mk A140
                    clear A140
                    have H' := Aside0.mk H
                    clear H
                    go_wp2_with (first | ((with_reducible refine gate_dst (N := 36) rfl ?_); refine Kd.R_lit (Kd.int .u32) _ 79 ?hg (N := 36) ?hd (xs := ([(wrap64 (a0 - x27_3)) % 4294967296] : List Int)) (inner := [.int .u32 ((wrap64 (a0 - x27_3)) % 4294967296)]) (ok := fun _ => True) (okp := fun _ => True) ?hr ?hp (fun _ hk => hk) trivial (Below.refl _ _) (Nat.le_refl _) (by simp) ?_; (case hd => rfl); (case hg => rfl); (case hr => first | (go_simp; done) | (go_simp; rfl)); (case hp => exact (Reps.one (show Kd.M (Kd.int .u32) _ _ _ ((wrap64 (a0 - x27_3)) % 4294967296) [.int .u32 ((wrap64 (a0 - x27_3)) % 4294967296)] from rfl) (Reps.none _ _))); intro v323 w15 ho16 hb hg_ hnew_; clear hg_ hnew_; (first | rw [← Ny322.out] at ho16 | (simp only [Int.reduceToNat] at ho16; rw [← Ny322.out] at ho16)); have n0_ := Aside0.mk (Kd.V_elder' (by (with_reducible repeat (first | apply Kd.V_alloc | apply Kd.V_drewN | apply Kd.V_drew)); exact HO_6.out) (Kd.R_base ho16) hb); have n1_ := Aside0.mk (Kd.R_lower ho16 (below_size (by repeat (first | (with_reducible first | exact HB.out | apply below_alloc | apply pw_below_drewN | apply below_drew1) | exact HB.out)))); have n2_ := Aside0.mk (below_step (by repeat (first | (with_reducible first | exact HB.out | apply below_alloc | apply pw_below_drewN | apply below_drew1) | exact HB.out)) hb); clear HO_6; clear HB; have HO_6 := n0_; have HO324 := n1_; have HB := n2_; clear n0_ n1_ n2_; clear hb ho16; obtain ⟨Ao17, co17, eo17⟩ := Kd.V_slice HO_6.out; subst eo17; obtain ⟨Ao18, co18, eo18⟩ := Kd.R_slice HO324.out; subst eo18) | ((with_reducible refine gate_callee (f := 103) rfl ?_); refine goesL_ (some 37) rfl rfl Try.func103 (by kernel_rfl) rfl #[.slice Ao17 x6_3.length co17, .slice Ao18 y322.length co18] rfl (by (try simp only [List.map_toArray, List.map_cons, List.map_nil]); first | done | rfl | (simp only [List.length_drop, List.length_take]; rfl)) ?_; (with_reducible refine (nat_times.calls k3 _ _ x6_3 _ _ y322 t325 _ ?side1 ?side2 ?side3 ?side4 A13.out).mono ?_); (case side1 => repeat (first | exact (Kd.V_reads' HO_6.out).2.2 | (with_reducible refine Kd.C_alloc ?_ _) | (with_reducible refine Kd.C_drewN ?_ _) | (with_reducible refine Kd.C_drew ?_))); (case side2 => exact (Kd.V_reads' HO_6.out).2.1); (case side3 => repeat (first | exact (Kd.R_reads' HO324.out).2.2 | (with_reducible refine Kd.C_alloc ?_ _) | (with_reducible refine Kd.C_drewN ?_ _) | (with_reducible refine Kd.C_drew ?_))); (case side4 => exact (Kd.R_reads' HO324.out).2.1); rintro e w19 ⟨v326, rfl, ho0, hb⟩; refine ⟨_, rfl, ?_⟩; have n0_ := Aside0.mk (Kd.V_below (by (with_reducible repeat (first | apply Kd.V_alloc | apply Kd.V_drewN | apply Kd.V_drew)); exact HO_6.out) hb); have n1_ := Aside0.mk (Kd.R_below (by (with_reducible repeat (first | apply Kd.R_alloc | apply Kd.R_drewN | apply Kd.R_drew)); exact HO324.out) hb); have n2_ := Aside0.mk (Kd.V_lower (Kd.V_mono (ok' := fun k_ => some k_ ≠ (.slice Ao18 y322.length co18 : Value).ownBlock) ho0 (fun k_ hk_ => (Kd.fresh' (Kd.R_lt (by (with_reducible repeat (first | apply Kd.R_alloc | apply Kd.R_drewN | apply Kd.R_drew)); exact HO324.out)) k_ hk_))) (below_size (by repeat (first | (with_reducible first | exact HB.out | apply below_alloc | apply pw_below_drewN | apply below_drew1) | exact HB.out)))); have n3_ := Aside0.mk (below_step (by repeat (first | (with_reducible first | exact HB.out | apply below_alloc | apply pw_below_drewN | apply below_drew1) | exact HB.out)) hb); clear HO_6; clear HO324; clear HB; have HO_6 := n0_; have HO324 := n1_; have HO327 := n2_; have HB := n3_; clear n0_ n1_ n2_ n3_; (try clear hb); (try clear hb2); (try clear hk); (try clear hi); (try clear ho0); obtain ⟨Ao20, co20, eo20⟩ := Kd.V_slice HO327.out; subst eo20) | ((with_reducible refine gate_callee (f := 120) rfl ?_); refine goesL_ (some 41) rfl rfl Try.func120 (by kernel_rfl) rfl #[.slice Ao20 t325.length co20, .int .u32 ((wrap64 (x27_3 + 1)) % 4294967296)] rfl (by (try simp only [List.map_toArray, List.map_cons, List.map_nil]); first | done | rfl | (simp only [List.length_drop, List.length_take]; rfl)) ?_; (with_reducible refine (nat_digit.calls k3 _ _ t325 ((wrap64 (x27_3 + 1)) % 4294967296) t328 t331 _ ?side1 ?side2 A14.out).mono ?_); (case side1 => repeat (first | exact (Kd.V_reads' HO327.out).2.2 | (with_reducible refine Kd.C_alloc ?_ _) | (with_reducible refine Kd.C_drewN ?_ _) | (with_reducible refine Kd.C_drew ?_))); (case side2 => exact (Kd.V_reads' HO327.out).2.1); rintro e w21 ⟨v329, rfl, ho0, hb⟩; refine ⟨_, rfl, ?_⟩; have n0_ := Aside0.mk (Kd.V_below (by (with_reducible repeat (first | apply Kd.V_alloc | apply Kd.V_drewN | apply Kd.V_drew)); exact HO_6.out) hb); have n1_ := Aside0.mk (Kd.R_below (by (with_reducible repeat (first | apply Kd.R_alloc | apply Kd.R_drewN | apply Kd.R_drew)); exact HO324.out) hb); have n2_ := Aside0.mk (Kd.V_below (by (with_reducible repeat (first | apply Kd.V_alloc | apply Kd.V_drewN | apply Kd.V_drew)); exact HO327.out) hb); have n3_ := Aside0.mk (Kd.V_lower (Kd.V_mono (ok' := fun k_ => some k_ ≠ (.slice Ao18 y322.length co18 : Value).ownBlock) ho0 (fun k_ hk_ => (Kd.fresh' (Kd.R_lt (by (with_reducible repeat (first | apply Kd.R_alloc | apply Kd.R_drewN | apply Kd.R_drew)); exact HO324.out)) k_ hk_))) (below_size (by repeat (first | (with_reducible first | exact HB.out | apply below_alloc | apply pw_below_drewN | apply below_drew1) | exact HB.out)))); have n4_ := Aside0.mk (below_step (by repeat (first | (with_reducible first | exact HB.out | apply below_alloc | apply pw_below_drewN | apply below_drew1) | exact HB.out)) hb); clear HO_6; clear HO324; clear HO327; clear HB; have HO_6 := n0_; have HO324 := n1_; have HO327 := n2_; have HO330 := n3_; have HB := n4_; clear n0_ n1_ n2_ n3_ n4_; (try clear hb); (try clear hb2); (try clear hk); (try clear hi); (try clear ho0)))
                    go_roundg k3
                    case measure => have := HJ2.out; have := HJ5.out; have := HK3.out; omega
                    case rel => exact ⟨(t328), (wrap64 (x27_3 + 1)), (by first | rfl | (simp; done) | (simp [*]; done)), H', ⟨by have := HJ2.out; have := HJ5.out; have := HK3.out; omega⟩, ⟨by (with_reducible repeat (first | apply Kd.V_alloc | apply Kd.V_drewN | apply Kd.V_drew)); exact Kd.V_mono HO330.out (fun _ hk => trivial)⟩, ⟨by repeat (first | (with_reducible first | exact HB.out | apply below_alloc | apply pw_below_drewN | apply below_drew1) | exact HB.out)⟩⟩
                  · rw [if_neg c12] at H
                    have c12b0 : decide (x27_3 < ji9) = false := decide_eq_false c12
                    clear c12
                    replace H := Option.bind_eq_some_iff.mp H
                    obtain ⟨t332, A220, H⟩ := H
                    replace H : (some (t332, 0)) = some (r1, r2) := H
                    have A22 := Aside0.mk A220
                    clear A220
                    simp only [Option.some.injEq, Prod.mk.injEq] at H
                    obtain ⟨rfl, rfl⟩ := H
                    obtain ⟨Ao23, co23, eo23⟩ := Kd.V_slice HO_6.out
                    subst eo23
                    go_wp2_with (first | ((with_reducible refine gate_callee (f := 105) rfl ?_); refine goesL_ (some 46) rfl rfl Try.func105 (by kernel_rfl) rfl #[.slice Ao23 x6_3.length co23] rfl (by (try simp only [List.map_toArray, List.map_cons, List.map_nil]); first | done | rfl | (simp only [List.length_drop, List.length_take]; rfl)) ?_; (with_reducible refine (nat_Trim.calls k3 _ _ x6_3 t332 _ ?side1 ?side2 A22.out).mono ?_); (case side1 => repeat (first | exact (Kd.V_reads' HO_6.out).2.2 | (with_reducible refine Kd.C_alloc ?_ _) | (with_reducible refine Kd.C_drewN ?_ _) | (with_reducible refine Kd.C_drew ?_))); (case side2 => exact (Kd.V_reads' HO_6.out).2.1); rintro e w24 ⟨v333, rfl, ho0, hb⟩; refine ⟨_, rfl, ?_⟩; have n0_ := Aside0.mk (Kd.V_elder' (by (with_reducible repeat (first | apply Kd.V_alloc | apply Kd.V_drewN | apply Kd.V_drew)); exact HO_6.out) (Kd.R_base ho0) hb); have n1_ := Aside0.mk (Kd.R_lower ho0 (below_size (by repeat (first | (with_reducible first | exact HB.out | apply below_alloc | apply pw_below_drewN | apply below_drew1) | exact HB.out)))); have n2_ := Aside0.mk (below_step (by repeat (first | (with_reducible first | exact HB.out | apply below_alloc | apply pw_below_drewN | apply below_drew1) | exact HB.out)) hb); clear HO_6; clear HB; have HO_6 := n0_; have HO334 := n1_; have HB := n2_; clear n0_ n1_ n2_; (try clear hb); (try clear hb2); (try clear hk); (try clear hi); (try clear ho0)))
                    go_ret2
                    exact ⟨_, by first | rfl | (simp [errW_none, errW_some] <;> rfl) | (simp only [← hji9]; first | rfl | (simp [errW_none, errW_some] <;> rfl)) | (simp [*, errW_none, errW_some] <;> rfl), by (with_reducible repeat (first | apply Kd.R_alloc | apply Kd.R_drewN | apply Kd.R_drew)); exact HO334.out, by repeat (first | (with_reducible first | exact HB.out | apply below_alloc | apply pw_below_drewN | apply below_drew1) | exact HB.out)⟩
/-! ### bounds_choose: function 72 -/
def bounds_choose.f (k : Nat) (a0 : Int) (a1 : Int) : Option (List Int) := (nat_Binomial.f k a0 a1).bind fun bt335 => (some bt335.1)
set_option maxHeartbeats 8000000 in
set_option maxRecDepth 100000 in
theorem bounds_choose.calls (k : Nat) (a0 : Int) (a1 : Int) (r : List Int) (w : World) (h : bounds_choose.f k a0 a1 = some r) :
    Calls Try.prog 72 #[.int .i64 a0, .int .i64 a1] w fun e w' => ∃ v0_ : Value, e = .returned (v0_) ∧ Kd.R (Kd.int .u32) 79 w' w.heap.size (fun _ => True) v0_ r ∧ Below w.heap.size w w' := by
  have HB := Aside0.mk (Below.refl w.heap.size w)
  have H : ((nat_Binomial.f k a0 a1).bind fun bt335 => (some bt335.1)) = some r := h
  clear h
  replace H := Option.bind_eq_some_iff.mp H
  obtain ⟨⟨t335, t336⟩, A30, H⟩ := H
  replace H : (some t335) = some r := H
  have A3 := Aside0.mk A30
  clear A30
  obtain rfl := Option.some.inj H
  go_enter Try.func72, Try.ntmps72
  go_wp2_with (first | ((with_reducible refine gate_callee (f := 99) rfl ?_); refine goesL_ (some 10) rfl rfl Try.func99 (by kernel_rfl) rfl #[.int .i64 a0, .int .i64 a1] rfl (by (try simp only [List.map_toArray, List.map_cons, List.map_nil]); first | done | rfl | (simp only [List.length_drop, List.length_take]; rfl)) ?_; (with_reducible refine (nat_Binomial.calls k a0 a1 t335 t336 _ A3.out).mono ?_); rintro e w4 ⟨v337, rfl, ho0, hb⟩; refine ⟨_, rfl, ?_⟩; have n0_ := Aside0.mk (Kd.R_lower ho0 (below_size (by repeat (first | (with_reducible first | exact HB.out | apply below_alloc | apply pw_below_drewN | apply below_drew1) | exact HB.out)))); have n1_ := Aside0.mk (below_step (by repeat (first | (with_reducible first | exact HB.out | apply below_alloc | apply pw_below_drewN | apply below_drew1) | exact HB.out)) hb); clear HB; have HO338 := n0_; have HB := n1_; clear n0_ n1_; (try clear hb); (try clear hb2); (try clear hk); (try clear hi); (try clear ho0)))
  go_ret
  exact ⟨_, by first | rfl | (simp [errW_none, errW_some] <;> rfl) | (simp [*, errW_none, errW_some] <;> rfl), by (with_reducible repeat (first | apply Kd.R_alloc | apply Kd.R_drewN | apply Kd.R_drew)); exact HO338.out, by repeat (first | (with_reducible first | exact HB.out | apply below_alloc | apply pw_below_drewN | apply below_drew1) | exact HB.out)⟩
/-! ### nat_plus: function 107 -/
mutual
def nat_plus.j0 : Nat → List Int → List Int → Option (List Int)
  | 0, _, _ => none
  | k + 1, x0, x1 => if 0 ≤ (wrap64 ((x0.length : Int) + 1)) then (if (wrap64 ((x0.length : Int) + 1) : Int).toNat ≤ 70368744177664 then (nat_plus.l0 k x0 x1 (List.replicate (wrap64 ((x0.length : Int) + 1) : Int).toNat 0) 0 (x0.length : Int) 0) else (none)) else (none)
def nat_plus.l0 : Nat → List Int → List Int → List Int → Int → Int → Int → Option (List Int)
  | 0, _, _, _, _, _, _ => none
  | k + 1, x0, x1, x5, x6, x21, x22 => if x22 < x21 then (if 0 ≤ x22 then (if x22 < (x0.length : Int) then (if x22 < (x1.length : Int) then (if x22 < (x5.length : Int) then (nat_plus.l0 k x0 x1 (x5.set (x22 : Int).toNat ((IntKind.u64.wrap ((IntKind.u64.wrap ((IntKind.u64.wrap (rd x0 x22)) + x6)) + (IntKind.u64.wrap (rd x1 x22)))) % 4294967296)) ((IntKind.u64.wrap ((IntKind.u64.wrap ((IntKind.u64.wrap (rd x0 x22)) + x6)) + (IntKind.u64.wrap (rd x1 x22)))) / 4294967296) x21 (wrap64 (x22 + 1))) else (none)) else (if x22 < (x5.length : Int) then (nat_plus.l0 k x0 x1 (x5.set (x22 : Int).toNat ((IntKind.u64.wrap ((IntKind.u64.wrap (rd x0 x22)) + x6)) % 4294967296)) ((IntKind.u64.wrap ((IntKind.u64.wrap (rd x0 x22)) + x6)) / 4294967296) x21 (wrap64 (x22 + 1))) else (none))) else (none)) else (none)) else (if 0 ≤ (x0.length : Int) then (if (x0.length : Int) < (x5.length : Int) then ((nat_short.f k (x5.set ((x0.length : Int) : Int).toNat ((x6) % 4294967296))).bind fun t347 => (some t347)) else (none)) else (none))
end
def nat_plus.f (k : Nat) (l0 : List Int) (l1 : List Int) : Option (List Int) := if (l0.length : Int) < (l1.length : Int) then (nat_plus.j0 k l1 l0) else (nat_plus.j0 k l0 l1)
set_option maxHeartbeats 8000000 in
set_option maxRecDepth 100000 in
theorem nat_plus.calls (k : Nat) (P0_ : Nat → Prop) (A0 : Option Addr) (c0 : Nat) (l0 : List Int) (P1_ : Nat → Prop) (A1 : Option Addr) (c1 : Nat) (l1 : List Int) (r : List Int) (w : World) (hs0 : Kd.V (Kd.int .u32) 79 w w.heap.size (fun k_ => P0_ k_) (.slice A0 l0.length c0) l0) (hs1 : Kd.V (Kd.int .u32) 79 w w.heap.size (fun k_ => P1_ k_) (.slice A1 l1.length c1) l1) (h : nat_plus.f k l0 l1 = some r) :
    Calls Try.prog 107 #[.slice A0 l0.length c0, .slice A1 l1.length c1] w fun e w' => ∃ v0_ : Value, e = .returned (v0_) ∧ Kd.V (Kd.int .u32) 79 w' w.heap.size (fun k_ => ((P0_ k_ ∨ P1_ k_) ∨ w.heap.size ≤ k_)) v0_ r ∧ Below w.heap.size w w' := by
  have HO0 := Aside0.mk (show Kd.V (Kd.int .u32) 79 w w.heap.size (fun k_ => ((P0_ k_ ∨ P1_ k_) ∨ w.heap.size ≤ k_)) (.slice A0 l0.length c0) l0 from Kd.V_mono hs0 (fun k_ hk => .inl (.inl hk)))
  have HO1 := Aside0.mk (show Kd.V (Kd.int .u32) 79 w w.heap.size (fun k_ => ((P0_ k_ ∨ P1_ k_) ∨ w.heap.size ≤ k_)) (.slice A1 l1.length c1) l1 from Kd.V_mono hs1 (fun k_ hk => .inl (.inr hk)))
  have HB := Aside0.mk (Below.refl w.heap.size w)
  have H : (if (l0.length : Int) < (l1.length : Int) then (nat_plus.j0 k l1 l0) else (nat_plus.j0 k l0 l1)) = some r := h
  clear h
  have HC3 := Aside0.mk H
  clear H
  go_enter Try.func107, Try.ntmps107
  go_upto_if 13 with (fail)
  go_cut [0, 1] (fun v0 v1 wc => ∃ (kq : Nat) (x0_2 : List Int) (x1_2 : List Int), Aside0 (nat_plus.j0 kq x0_2 x1_2 = some r) ∧ Aside0 (kq ≤ k) ∧ Aside0 (Kd.V (Kd.int .u32) 79 wc w.heap.size (fun k_ => ((P0_ k_ ∨ P1_ k_) ∨ w.heap.size ≤ k_)) v0 x0_2) ∧ Aside0 (Kd.V (Kd.int .u32) 79 wc w.heap.size (fun k_ => ((P0_ k_ ∨ P1_ k_) ∨ w.heap.size ≤ k_)) v1 x1_2) ∧ Aside0 (Below w.heap.size w wc))
  case first =>
    have H := HC3.out
    clear HC3
    by_cases c4 : (l0.length : Int) < (l1.length : Int)
    · rw [if_pos c4] at H
      have c4b0 : decide ((l0.length : Int) < (l1.length : Int)) = true := decide_eq_true c4
      have c4b1 : decide (l0.length < l1.length) = true := decide_eq_true (Int.ofNat_lt.mp c4)
      clear c4
      (first | rw [c4b0] | (simp only [i64_w, i32_w]; rw [c4b0]) | rw [c4b1] | rw [c4b2] | skip)
      have H' := Aside0.mk H
      clear H
      go_wp2
      go_meet
      case rel => exact ⟨_, (l1), (l0), H', ⟨by first | omega | exact Nat.le_refl _⟩, ⟨by (with_reducible repeat (first | apply Kd.V_alloc | apply Kd.V_drewN | apply Kd.V_drew)); exact HO1.out⟩, ⟨by (with_reducible repeat (first | apply Kd.V_alloc | apply Kd.V_drewN | apply Kd.V_drew)); exact HO0.out⟩, ⟨by repeat (first | (with_reducible first | exact HB.out | apply below_alloc | apply pw_below_drewN | apply below_drew1) | exact HB.out)⟩⟩
    · rw [if_neg c4] at H
      have c4b0 : decide ((l0.length : Int) < (l1.length : Int)) = false := decide_eq_false c4
      have c4b1 : decide (l0.length < l1.length) = false := decide_eq_false (fun h => c4 (Int.ofNat_lt.mpr h))
      clear c4
      (first | rw [c4b0] | (simp only [i64_w, i32_w]; rw [c4b0]) | rw [c4b1] | rw [c4b2] | skip)
      have H' := Aside0.mk H
      clear H
      go_wp2
      go_meet
      case rel => exact ⟨_, (l0), (l1), H', ⟨by first | omega | exact Nat.le_refl _⟩, ⟨by (with_reducible repeat (first | apply Kd.V_alloc | apply Kd.V_drewN | apply Kd.V_drew)); exact HO0.out⟩, ⟨by (with_reducible repeat (first | apply Kd.V_alloc | apply Kd.V_drewN | apply Kd.V_drew)); exact HO1.out⟩, ⟨by repeat (first | (with_reducible first | exact HB.out | apply below_alloc | apply pw_below_drewN | apply below_drew1) | exact HB.out)⟩⟩
  case rest =>
    clear HC3
    try clear c1
    try clear p2
    try clear c4
    try clear c4b0
    try clear c4b1
    obtain ⟨kq, x0_2, x1_2, HA, HJ2, HO_0, HO_1, HB⟩ := hcut
    cases kq with
    | zero => exact absurd HA.out (by simp [nat_plus.j0])
    | succ kj2 =>
      have H := HA.out
      clear HA
      simp only [nat_plus.j0] at H
      obtain ⟨ji5, hji5⟩ : ∃ j_ : Int, (wrap64 ((x0_2.length : Int) + 1)) = j_ := ⟨_, rfl⟩
      replace H : (if 0 ≤ (ji5) then (if (ji5 : Int).toNat ≤ 70368744177664 then (nat_plus.l0 kj2 x0_2 x1_2 (List.replicate (ji5 : Int).toNat 0) 0 (x0_2.length : Int) 0) else (none)) else (none)) = some r := by first | (rw [hji5] at H; exact H) | (simp only [hji5] at H ⊢; exact H)
      have hji5w : (IntKind.i64.wrap ((x0_2.length : Int) + 1)) = ji5 := (i64_w _).trans hji5
      by_cases c6 : 0 ≤ (ji5)
      · rw [if_pos c6] at H
        have c6b0 := eq_true c6
        have c6b1 : decide (0 ≤ (ji5)) = true := decide_eq_true c6
        clear c6
        by_cases c7 : (ji5 : Int).toNat ≤ 70368744177664
        · rw [if_pos c7] at H
          have c7b0 := eq_true c7
          have c7b1 : decide ((ji5 : Int).toNat ≤ 70368744177664) = true := decide_eq_true c7
          clear c7
          obtain ⟨y339, hy339⟩ : ∃ y_ : List Int, y_ = (List.replicate (ji5 : Int).toNat 0) := ⟨_, rfl⟩
          replace H : (nat_plus.l0 kj2 x0_2 x1_2 y339 0 (x0_2.length : Int) 0) = some r := by first | (rw [hy339]; with_reducible exact H) | (have H2_ := (Option.bind_some _ _).symm.trans H; rw [hy339]; with_reducible exact H2_) | (have H2_ := (Option.bind_some _ _).symm.trans H; with_reducible exact H2_) | with_reducible exact H | (rw [hy339]; exact H) | exact H
          have Ny339 := Aside0.mk hy339
          clear hy339
          have H' := Aside0.mk H
          clear H
          obtain ⟨Ao8, co8, eo8⟩ := Kd.V_slice HO_0.out
          subst eo8
          go_wp2_with (first | ((with_reducible refine gate_dst (N := 19) rfl ?_); refine Kd.R_make (Kd.int .u32) _ 79 rfl (N := 19) rfl 32 _ _ rfl ji5 rfl rfl Try.underlying32 (.int .u32 0) 4 info79 rfl (by decide) (by omega) 0 (ok := fun _ => True) (okp := fun _ => True) rfl (fun _ hk => hk) trivial (of_decide_eq_true (by first | (with_reducible assumption) | assumption)) (Nat.le_trans (Nat.mul_le_mul_right _ (of_decide_eq_true (by first | (with_reducible assumption) | assumption) : ji5.toNat ≤ 70368744177664)) (by omega)) (Below.refl _ _) (Nat.le_refl _) ?_; intro v340 w9 ho10 hb hg_ hnew_; clear hg_ hnew_; (first | rw [← Ny339.out] at ho10 | (simp only [Int.reduceToNat] at ho10; rw [← Ny339.out] at ho10)); have n0_ := Aside0.mk (Kd.V_elder' (by (with_reducible repeat (first | apply Kd.V_alloc | apply Kd.V_drewN | apply Kd.V_drew)); exact HO_0.out) (Kd.R_base ho10) hb); have n1_ := Aside0.mk (Kd.V_elder' (by (with_reducible repeat (first | apply Kd.V_alloc | apply Kd.V_drewN | apply Kd.V_drew)); exact HO_1.out) (Kd.R_base ho10) hb); have n2_ := Aside0.mk (Kd.R_lower (Kd.R_newM (M := fun k_ => (w.heap.size ≤ k_)) ho10 (below_size (by repeat (first | (with_reducible first | exact HB.out | apply below_alloc | apply pw_below_drewN | apply below_drew1) | exact HB.out))) (fun k_ h_ => h_)) (below_size (by repeat (first | (with_reducible first | exact HB.out | apply below_alloc | apply pw_below_drewN | apply below_drew1) | exact HB.out)))); have n3_ := Aside0.mk (below_step (by repeat (first | (with_reducible first | exact HB.out | apply below_alloc | apply pw_below_drewN | apply below_drew1) | exact HB.out)) hb); clear HO_0; clear HO_1; clear HB; have HO_0 := n0_; have HO_1 := n1_; have HO341 := n2_; have HB := n3_; clear n0_ n1_ n2_ n3_; clear hb ho10))
          go_loopg [6, 22] kj2 (fun kq v6 v22 w' => ∃ (x5_2 : List Int) (x6_2 : Int) (x22_2 : Int), v6 = .int .u64 x6_2 ∧ v22 = .int .i64 x22_2 ∧ Aside0 (nat_plus.l0 kq x0_2 x1_2 x5_2 x6_2 (x0_2.length : Int) x22_2 = some r) ∧ Aside0 (kq ≤ kj2) ∧ Aside0 (Kd.V (Kd.int .u32) 79 w' w.heap.size (fun k_ => ((P0_ k_ ∨ P1_ k_) ∨ w.heap.size ≤ k_) ∧ some k_ ≠ (v340 : Value).ownBlock) (.slice Ao8 x0_2.length co8) x0_2) ∧ Aside0 (Kd.V (Kd.int .u32) 79 w' w.heap.size (fun k_ => ((P0_ k_ ∨ P1_ k_) ∨ w.heap.size ≤ k_) ∧ some k_ ≠ (v340 : Value).ownBlock) u1 x1_2) ∧ Aside0 (Kd.R (Kd.int .u32) 79 w' w.heap.size (fun k_ => (w.heap.size ≤ k_)) v340 x5_2) ∧ Aside0 (Below w.heap.size w w'))
          case atStart => exact ⟨(y339), (0), (0), (by first | rfl | (simp; done) | (simp [*]; done)), (by first | rfl | (simp; done) | (simp [*]; done)), H', ⟨Nat.le_refl _⟩, ⟨by (with_reducible repeat (first | apply Kd.V_alloc | apply Kd.V_drewN | apply Kd.V_drew)); exact HO_0.out⟩, ⟨by (with_reducible repeat (first | apply Kd.V_alloc | apply Kd.V_drewN | apply Kd.V_drew)); exact HO_1.out⟩, ⟨by (with_reducible repeat (first | apply Kd.R_alloc | apply Kd.R_drewN | apply Kd.R_drew)); exact Kd.R_mono HO341.out (fun _ hk => hk.1)⟩, ⟨by repeat (first | (with_reducible first | exact HB.out | apply below_alloc | apply pw_below_drewN | apply below_drew1) | exact HB.out)⟩⟩
          case round =>
            clear H'
            try clear c1
            try clear p2
            try clear c4
            try clear c4b0
            try clear c4b1
            try clear c6
            try clear c6b0
            try clear c6b1
            try clear p6
            try clear c7
            try clear c7b0
            try clear c7b1
            try clear c10
            try clear p2
            obtain ⟨x5_2, x6_2, x22_2, rfl, rfl, HA, HK2, HO_0, HO_1, HO_5, HB⟩ := hrel
            cases gk with
            | zero => exact absurd HA.out (by simp [nat_plus.l0])
            | succ k2 =>
              have H := HA.out
              clear HA
              simp only [nat_plus.l0] at H
              by_cases c11 : x22_2 < (x0_2.length : Int)
              · rw [if_pos c11] at H
                have c11b0 : decide (x22_2 < (x0_2.length : Int)) = true := decide_eq_true c11
                clear c11
                by_cases c12 : 0 ≤ x22_2
                · rw [if_pos c12] at H
                  have c12b0 : decide (0 ≤ x22_2) = true := decide_eq_true c12
                  clear c12
                  by_cases c13 : x22_2 < (x0_2.length : Int)
                  · rw [if_pos c13] at H
                    have c13b0 : decide (x22_2 < (x0_2.length : Int)) = true := decide_eq_true c13
                    clear c13
                    by_cases c14 : x22_2 < (x1_2.length : Int)
                    · rw [if_pos c14] at H
                      have c14b0 : decide (x22_2 < (x1_2.length : Int)) = true := decide_eq_true c14
                      clear c14
                      by_cases c15 : x22_2 < (x5_2.length : Int)
                      · rw [if_pos c15] at H
                        have c15b0 : decide (x22_2 < (x5_2.length : Int)) = true := decide_eq_true c15
                        clear c15
                        obtain ⟨y344, hy344⟩ : ∃ y_ : List Int, y_ = (x5_2.set (x22_2 : Int).toNat ((IntKind.u64.wrap ((IntKind.u64.wrap ((IntKind.u64.wrap (rd x0_2 x22_2)) + x6_2)) + (IntKind.u64.wrap (rd x1_2 x22_2)))) % 4294967296)) := ⟨_, rfl⟩
                        replace H : (nat_plus.l0 k2 x0_2 x1_2 y344 ((IntKind.u64.wrap ((IntKind.u64.wrap ((IntKind.u64.wrap (rd x0_2 x22_2)) + x6_2)) + (IntKind.u64.wrap (rd x1_2 x22_2)))) / 4294967296) (x0_2.length : Int) (wrap64 (x22_2 + 1))) = some r := by first | (rw [hy344]; with_reducible exact H) | (have H2_ := (Option.bind_some _ _).symm.trans H; rw [hy344]; with_reducible exact H2_) | (have H2_ := (Option.bind_some _ _).symm.trans H; with_reducible exact H2_) | with_reducible exact H | (rw [hy344]; exact H) | exact H
                        have Ny344 := Aside0.mk hy344
                        clear hy344
                        have H' := Aside0.mk H
                        clear H
                        have p342 : 0 ≤ (x22_2 : Int) := of_decide_eq_true (by first | (with_reducible assumption) | assumption)
                        have q342 : x22_2 < (x0_2.length : Int) := of_decide_eq_true (by first | (with_reducible assumption) | assumption)
                        obtain ⟨ad342, e342, hx342_0⟩ := Kd.at_int (Kd.V_reads' HO_0.out).2.2 x22_2 p342 q342
                        cases e342
                        replace p342 := eq_true p342
                        replace q342 := eq_true q342
                        obtain ⟨Ao17, co17, eo17⟩ := Kd.V_slice HO_1.out
                        subst eo17
                        have p343 : 0 ≤ (x22_2 : Int) := of_decide_eq_true (by first | (with_reducible assumption) | assumption)
                        have q343 : x22_2 < (x1_2.length : Int) := of_decide_eq_true (by first | (with_reducible assumption) | assumption)
                        obtain ⟨ad343, e343, hx343_0⟩ := Kd.at_int (Kd.V_reads' HO_1.out).2.2 x22_2 p343 q343
                        cases e343
                        replace p343 := eq_true p343
                        replace q343 := eq_true q343
                        have p16 : 0 ≤ (x22_2 : Int) := of_decide_eq_true (by first | (with_reducible assumption) | assumption)
                        have q16 : (x22_2 : Int) < ((x5_2.length : Int) : Int) := of_decide_eq_true (by first | (with_reducible assumption) | assumption)
                        obtain ⟨go16, co16, eo16, gb16, gl16, cl16, HG16⟩ := Kd.R_form HO_5.out (by omega)
                        (first | cases eo16 | (injection eo16 with ea_ en_ ec_; (first | subst ea_ | (injection ea_ with ea_; subst ea_)); subst ec_; clear en_))
                        have GB16 := Aside0.mk gb16
                        have GG16 := Aside0.mk HG16
                        clear gb16 gl16 HG16
                        obtain ⟨hx16_0, hf16_0⟩ := Kd.R_celln 0 HO_5.out (x22_2 : Int) p16 q16
                        replace p16 := eq_true p16
                        replace q16 := eq_true q16
                        have HP18 := Kd.R_putg HO_5.out (x22_2 : Int) ((IntKind.u64.wrap ((IntKind.u64.wrap ((IntKind.u64.wrap (rd x0_2 x22_2)) + x6_2)) + (IntKind.u64.wrap (rd x1_2 x22_2)))) % 4294967296)
                        go_wp2_with (first | ((with_reducible refine gate_store (t := 79) (p := 47) rfl ?_); refine store_event (t := 79) (p := 47) (v := ?vo_w19) (w1 := (wr.setCell ⟨go16, (x22_2 : Int).toNat, none⟩ (.int .u32 ((IntKind.u64.wrap ((IntKind.u64.wrap ((IntKind.u64.wrap (rd x0_2 x22_2)) + x6_2)) + (IntKind.u64.wrap (rd x1_2 x22_2)))) % 4294967296)))) ?hg ?ho ?hn ?hr ?_; (case ho => rfl); (case hg => rfl); (case hn => rfl); (case hr => first | (go_simp; done) | (go_simp; rfl)); intro w19 hw; have hg : wr.grownBy w19 (some go16) := (by rw [hw]; exact HP18.2); have hp_ : Kd.R (Kd.int .u32) 79 w19 w.heap.size (fun k_ => (w.heap.size ≤ k_)) (.slice (some ⟨go16, 0, none⟩) x5_2.length co16) y344 := (by rw [hw, Ny344.out]; exact HP18.1); clear HP18; have n0_ := Aside0.mk (Kd.V_afterv (v := (.slice (some ⟨go16, 0, none⟩) x5_2.length co16)) (v1 := (.slice (some ⟨go16, 0, none⟩) x5_2.length co16)) (ok := (fun k_ => ((P0_ k_ ∨ P1_ k_) ∨ w.heap.size ≤ k_))) (by (with_reducible repeat (first | apply Kd.V_alloc | apply Kd.V_drewN | apply Kd.V_drew)); exact HO_0.out) hg (.inl rfl)); have n1_ := Aside0.mk (Kd.V_afterv (v := (.slice (some ⟨go16, 0, none⟩) x5_2.length co16)) (v1 := (.slice (some ⟨go16, 0, none⟩) x5_2.length co16)) (ok := (fun k_ => ((P0_ k_ ∨ P1_ k_) ∨ w.heap.size ≤ k_))) (by (with_reducible repeat (first | apply Kd.V_alloc | apply Kd.V_drewN | apply Kd.V_drew)); exact HO_1.out) hg (.inl rfl)); have n2_ := Aside0.mk (hp_); have n3_ := Aside0.mk ((by rw [hw]; exact below_set (HB.out) GB16.out : Below w.heap.size w w19)); clear HO_0; clear HO_1; clear HO_5; clear HB; have HO_0 := n0_; have HO_1 := n1_; have HO_5 := n2_; have HB := n3_; clear n0_ n1_ n2_ n3_; clear hg hw hp_))
                        go_roundg k2
                        case measure => have := HJ2.out; have := HK2.out; omega
                        case rel => exact ⟨(y344), ((IntKind.u64.wrap ((IntKind.u64.wrap ((IntKind.u64.wrap (rd x0_2 x22_2)) + x6_2)) + (IntKind.u64.wrap (rd x1_2 x22_2)))) / 4294967296), (wrap64 (x22_2 + 1)), (by first | rfl | (simp; done) | (simp [*]; done)), (by first | rfl | (simp; done) | (simp [*]; done)), H', ⟨by have := HJ2.out; have := HK2.out; omega⟩, ⟨by (with_reducible repeat (first | apply Kd.V_alloc | apply Kd.V_drewN | apply Kd.V_drew)); exact HO_0.out⟩, ⟨by (with_reducible repeat (first | apply Kd.V_alloc | apply Kd.V_drewN | apply Kd.V_drew)); exact HO_1.out⟩, ⟨by (with_reducible repeat (first | apply Kd.R_alloc | apply Kd.R_drewN | apply Kd.R_drew)); exact HO_5.out⟩, ⟨by repeat (first | (with_reducible first | exact HB.out | apply below_alloc | apply pw_below_drewN | apply below_drew1) | exact HB.out)⟩⟩
                      · rw [if_neg c15] at H
                        exact absurd H (by simp)
                    · rw [if_neg c14] at H
                      have c14b0 : decide (x22_2 < (x1_2.length : Int)) = false := decide_eq_false c14
                      clear c14
                      by_cases c20 : x22_2 < (x5_2.length : Int)
                      · rw [if_pos c20] at H
                        have c20b0 : decide (x22_2 < (x5_2.length : Int)) = true := decide_eq_true c20
                        clear c20
                        obtain ⟨y345, hy345⟩ : ∃ y_ : List Int, y_ = (x5_2.set (x22_2 : Int).toNat ((IntKind.u64.wrap ((IntKind.u64.wrap (rd x0_2 x22_2)) + x6_2)) % 4294967296)) := ⟨_, rfl⟩
                        replace H : (nat_plus.l0 k2 x0_2 x1_2 y345 ((IntKind.u64.wrap ((IntKind.u64.wrap (rd x0_2 x22_2)) + x6_2)) / 4294967296) (x0_2.length : Int) (wrap64 (x22_2 + 1))) = some r := by first | (rw [hy345]; with_reducible exact H) | (have H2_ := (Option.bind_some _ _).symm.trans H; rw [hy345]; with_reducible exact H2_) | (have H2_ := (Option.bind_some _ _).symm.trans H; with_reducible exact H2_) | with_reducible exact H | (rw [hy345]; exact H) | exact H
                        have Ny345 := Aside0.mk hy345
                        clear hy345
                        have H' := Aside0.mk H
                        clear H
                        have p342 : 0 ≤ (x22_2 : Int) := of_decide_eq_true (by first | (with_reducible assumption) | assumption)
                        have q342 : x22_2 < (x0_2.length : Int) := of_decide_eq_true (by first | (with_reducible assumption) | assumption)
                        obtain ⟨ad342, e342, hx342_0⟩ := Kd.at_int (Kd.V_reads' HO_0.out).2.2 x22_2 p342 q342
                        cases e342
                        replace p342 := eq_true p342
                        replace q342 := eq_true q342
                        obtain ⟨Ao22, co22, eo22⟩ := Kd.V_slice HO_1.out
                        subst eo22
                        have p21 : 0 ≤ (x22_2 : Int) := of_decide_eq_true (by first | (with_reducible assumption) | assumption)
                        have q21 : (x22_2 : Int) < ((x5_2.length : Int) : Int) := of_decide_eq_true (by first | (with_reducible assumption) | assumption)
                        obtain ⟨go21, co21, eo21, gb21, gl21, cl21, HG21⟩ := Kd.R_form HO_5.out (by omega)
                        (first | cases eo21 | (injection eo21 with ea_ en_ ec_; (first | subst ea_ | (injection ea_ with ea_; subst ea_)); subst ec_; clear en_))
                        have GB21 := Aside0.mk gb21
                        have GG21 := Aside0.mk HG21
                        clear gb21 gl21 HG21
                        obtain ⟨hx21_0, hf21_0⟩ := Kd.R_celln 0 HO_5.out (x22_2 : Int) p21 q21
                        replace p21 := eq_true p21
                        replace q21 := eq_true q21
                        have HP23 := Kd.R_putg HO_5.out (x22_2 : Int) ((IntKind.u64.wrap ((IntKind.u64.wrap (rd x0_2 x22_2)) + x6_2)) % 4294967296)
                        go_wp2_with (first | ((with_reducible refine gate_store (t := 79) (p := 47) rfl ?_); refine store_event (t := 79) (p := 47) (v := ?vo_w24) (w1 := (wr.setCell ⟨go21, (x22_2 : Int).toNat, none⟩ (.int .u32 ((IntKind.u64.wrap ((IntKind.u64.wrap (rd x0_2 x22_2)) + x6_2)) % 4294967296)))) ?hg ?ho ?hn ?hr ?_; (case ho => rfl); (case hg => rfl); (case hn => rfl); (case hr => first | (go_simp; done) | (go_simp; rfl)); intro w24 hw; have hg : wr.grownBy w24 (some go21) := (by rw [hw]; exact HP23.2); have hp_ : Kd.R (Kd.int .u32) 79 w24 w.heap.size (fun k_ => (w.heap.size ≤ k_)) (.slice (some ⟨go21, 0, none⟩) x5_2.length co21) y345 := (by rw [hw, Ny345.out]; exact HP23.1); clear HP23; have n0_ := Aside0.mk (Kd.V_afterv (v := (.slice (some ⟨go21, 0, none⟩) x5_2.length co21)) (v1 := (.slice (some ⟨go21, 0, none⟩) x5_2.length co21)) (ok := (fun k_ => ((P0_ k_ ∨ P1_ k_) ∨ w.heap.size ≤ k_))) (by (with_reducible repeat (first | apply Kd.V_alloc | apply Kd.V_drewN | apply Kd.V_drew)); exact HO_0.out) hg (.inl rfl)); have n1_ := Aside0.mk (Kd.V_afterv (v := (.slice (some ⟨go21, 0, none⟩) x5_2.length co21)) (v1 := (.slice (some ⟨go21, 0, none⟩) x5_2.length co21)) (ok := (fun k_ => ((P0_ k_ ∨ P1_ k_) ∨ w.heap.size ≤ k_))) (by (with_reducible repeat (first | apply Kd.V_alloc | apply Kd.V_drewN | apply Kd.V_drew)); exact HO_1.out) hg (.inl rfl)); have n2_ := Aside0.mk (hp_); have n3_ := Aside0.mk ((by rw [hw]; exact below_set (HB.out) GB21.out : Below w.heap.size w w24)); clear HO_0; clear HO_1; clear HO_5; clear HB; have HO_0 := n0_; have HO_1 := n1_; have HO_5 := n2_; have HB := n3_; clear n0_ n1_ n2_ n3_; clear hg hw hp_))
                        go_roundg k2
                        case measure => have := HJ2.out; have := HK2.out; omega
                        case rel => exact ⟨(y345), ((IntKind.u64.wrap ((IntKind.u64.wrap (rd x0_2 x22_2)) + x6_2)) / 4294967296), (wrap64 (x22_2 + 1)), (by first | rfl | (simp; done) | (simp [*]; done)), (by first | rfl | (simp; done) | (simp [*]; done)), H', ⟨by have := HJ2.out; have := HK2.out; omega⟩, ⟨by (with_reducible repeat (first | apply Kd.V_alloc | apply Kd.V_drewN | apply Kd.V_drew)); exact HO_0.out⟩, ⟨by (with_reducible repeat (first | apply Kd.V_alloc | apply Kd.V_drewN | apply Kd.V_drew)); exact HO_1.out⟩, ⟨by (with_reducible repeat (first | apply Kd.R_alloc | apply Kd.R_drewN | apply Kd.R_drew)); exact HO_5.out⟩, ⟨by repeat (first | (with_reducible first | exact HB.out | apply below_alloc | apply pw_below_drewN | apply below_drew1) | exact HB.out)⟩⟩
                      · rw [if_neg c20] at H
                        exact absurd H (by simp)
                  · rw [if_neg c13] at H
                    exact absurd H (by simp)
                · rw [if_neg c12] at H
                  exact absurd H (by simp)
              · rw [if_neg c11] at H
                have c11b0 : decide (x22_2 < (x0_2.length : Int)) = false := decide_eq_false c11
                clear c11
                by_cases c25 : 0 ≤ (x0_2.length : Int)
                · rw [if_pos c25] at H
                  have c25b0 : decide (0 ≤ (x0_2.length : Int)) = true := decide_eq_true c25
                  have c25b1 : decide (0 ≤ x0_2.length) = true := decide_eq_true (by omega)
                  clear c25
                  by_cases c26 : (x0_2.length : Int) < (x5_2.length : Int)
                  · rw [if_pos c26] at H
                    have c26b0 : decide ((x0_2.length : Int) < (x5_2.length : Int)) = true := decide_eq_true c26
                    have c26b1 : decide (x0_2.length < x5_2.length) = true := decide_eq_true (Int.ofNat_lt.mp c26)
                    clear c26
                    obtain ⟨y346, hy346⟩ : ∃ y_ : List Int, y_ = (x5_2.set ((x0_2.length : Int) : Int).toNat ((x6_2) % 4294967296)) := ⟨_, rfl⟩
                    replace H : ((nat_short.f k2 y346).bind fun t347 => (some t347)) = some r := by first | (rw [hy346]; with_reducible exact H) | (have H2_ := (Option.bind_some _ _).symm.trans H; rw [hy346]; with_reducible exact H2_) | (have H2_ := (Option.bind_some _ _).symm.trans H; with_reducible exact H2_) | with_reducible exact H | (rw [hy346]; exact H) | exact H
                    have Ny346 := Aside0.mk hy346
                    clear hy346
                    replace H := Option.bind_eq_some_iff.mp H
                    obtain ⟨t347, A280, H⟩ := H
                    replace H : (some t347) = some r := H
                    have A28 := Aside0.mk A280
                    clear A280
                    obtain rfl := Option.some.inj H
                    have p27 : 0 ≤ ((x0_2.length : Int) : Int) := of_decide_eq_true (by first | (with_reducible assumption) | assumption)
                    have q27 : ((x0_2.length : Int) : Int) < ((x5_2.length : Int) : Int) := of_decide_eq_true (by first | (with_reducible assumption) | assumption)
                    obtain ⟨go27, co27, eo27, gb27, gl27, cl27, HG27⟩ := Kd.R_form HO_5.out (by omega)
                    (first | cases eo27 | (injection eo27 with ea_ en_ ec_; (first | subst ea_ | (injection ea_ with ea_; subst ea_)); subst ec_; clear en_))
                    have GB27 := Aside0.mk gb27
                    have GG27 := Aside0.mk HG27
                    clear gb27 gl27 HG27
                    obtain ⟨hx27_0, hf27_0⟩ := Kd.R_celln 0 HO_5.out ((x0_2.length : Int) : Int) p27 q27
                    (try simp only [Int.toNat_natCast] at hx27_0 hf27_0)
                    replace p27 := eq_true p27
                    replace q27 := eq_true q27
                    have HP29 := Kd.R_putg HO_5.out ((x0_2.length : Int) : Int) ((x6_2) % 4294967296)
                    go_wp2_with (first | ((with_reducible refine gate_store (t := 79) (p := 56) rfl ?_); refine store_event (t := 79) (p := 56) (v := ?vo_w30) (w1 := (wr.setCell ⟨go27, ((x0_2.length : Int) : Int).toNat, none⟩ (.int .u32 ((x6_2) % 4294967296)))) ?hg ?ho ?hn ?hr ?_; (case ho => rfl); (case hg => rfl); (case hn => rfl); (case hr => first | (go_simp; done) | (go_simp; rfl)); intro w30 hw; have hg : wr.grownBy w30 (some go27) := (by rw [hw]; exact HP29.2); have hp_ : Kd.R (Kd.int .u32) 79 w30 w.heap.size (fun k_ => (w.heap.size ≤ k_)) (.slice (some ⟨go27, 0, none⟩) x5_2.length co27) y346 := (by rw [hw, Ny346.out]; exact HP29.1); clear HP29; have n0_ := Aside0.mk (Kd.V_afterv (v := (.slice (some ⟨go27, 0, none⟩) x5_2.length co27)) (v1 := (.slice (some ⟨go27, 0, none⟩) x5_2.length co27)) (ok := (fun k_ => ((P0_ k_ ∨ P1_ k_) ∨ w.heap.size ≤ k_))) (by (with_reducible repeat (first | apply Kd.V_alloc | apply Kd.V_drewN | apply Kd.V_drew)); exact HO_0.out) hg (.inl rfl)); have n1_ := Aside0.mk (Kd.V_afterv (v := (.slice (some ⟨go27, 0, none⟩) x5_2.length co27)) (v1 := (.slice (some ⟨go27, 0, none⟩) x5_2.length co27)) (ok := (fun k_ => ((P0_ k_ ∨ P1_ k_) ∨ w.heap.size ≤ k_))) (by (with_reducible repeat (first | apply Kd.V_alloc | apply Kd.V_drewN | apply Kd.V_drew)); exact HO_1.out) hg (.inl rfl)); have n2_ := Aside0.mk (hp_); have n3_ := Aside0.mk ((by rw [hw]; exact below_set (HB.out) GB27.out : Below w.heap.size w w30)); clear HO_0; clear HO_1; clear HO_5; clear HB; have HO_0 := n0_; have HO_1 := n1_; have HO_5 := n2_; have HB := n3_; clear n0_ n1_ n2_ n3_; clear hg hw hp_) | ((with_reducible refine gate_callee (f := 104) rfl ?_); refine goesL_ (some 58) rfl rfl Try.func104 (by kernel_rfl) rfl #[.slice (some ⟨go27, 0, none⟩) y346.length co27] rfl (by (try simp only [List.map_toArray, List.map_cons, List.map_nil]); first | done | (rw [show y346.length = x5_2.length from (Kd.R_reads' HO_5.out).1.symm] <;> rfl) | rfl | (simp only [List.length_drop, List.length_take]; rfl)) ?_; (with_reducible refine (nat_short.calls k2 (fun k_ => some k_ = (.slice (some ⟨go27, 0, none⟩) x5_2.length co27 : Value).ownBlock) _ _ y346 t347 _ ?side1 A28.out).mono ?_); (case side1 => rw [show y346.length = x5_2.length from (Kd.R_reads' HO_5.out).1.symm]; exact Kd.R_V (Kd.R_tight rfl (HO_5.out))); rintro e w31 ⟨v348, rfl, ho0, hb⟩; refine ⟨_, rfl, ?_⟩; have n0_ := Aside0.mk (Kd.V_below (by (with_reducible repeat (first | apply Kd.V_alloc | apply Kd.V_drewN | apply Kd.V_drew)); exact HO_0.out) hb); have n1_ := Aside0.mk (Kd.V_below (by (with_reducible repeat (first | apply Kd.V_alloc | apply Kd.V_drewN | apply Kd.V_drew)); exact HO_1.out) hb); have n2_ := Aside0.mk (Kd.R_below (by (with_reducible repeat (first | apply Kd.R_alloc | apply Kd.R_drewN | apply Kd.R_drew)); exact HO_5.out) hb); have n3_ := Aside0.mk (Kd.V_lower (Kd.V_mono (ok' := fun k_ => ((P0_ k_ ∨ P1_ k_) ∨ w.heap.size ≤ k_)) ho0 (fun k_ hk_ => Or.elim hk_ (fun hs_ => (.inr (((HO_5.out).1 k_ hs_.symm)))) (fun hn_ => (.inr (Nat.le_trans (below_size (by repeat (first | (with_reducible first | exact HB.out | apply below_alloc | apply pw_below_drewN | apply below_drew1) | exact HB.out))) hn_))))) (below_size (by repeat (first | (with_reducible first | exact HB.out | apply below_alloc | apply pw_below_drewN | apply below_drew1) | exact HB.out)))); have n4_ := Aside0.mk (below_step (by repeat (first | (with_reducible first | exact HB.out | apply below_alloc | apply pw_below_drewN | apply below_drew1) | exact HB.out)) hb); clear HO_0; clear HO_1; clear HO_5; clear HB; have HO_0 := n0_; have HO_1 := n1_; have HO_5 := n2_; have HO349 := n3_; have HB := n4_; clear n0_ n1_ n2_ n3_ n4_; (try clear hb); (try clear hb2); (try clear hk); (try clear hi); (try clear ho0)))
                    go_ret
                    exact ⟨_, by first | rfl | (simp [errW_none, errW_some] <;> rfl) | (simp only [← hji5]; first | rfl | (simp [errW_none, errW_some] <;> rfl)) | (simp [*, errW_none, errW_some] <;> rfl), by (with_reducible repeat (first | apply Kd.V_alloc | apply Kd.V_drewN | apply Kd.V_drew)); exact HO349.out, by repeat (first | (with_reducible first | exact HB.out | apply below_alloc | apply pw_below_drewN | apply below_drew1) | exact HB.out)⟩
                  · rw [if_neg c26] at H
                    exact absurd H (by simp)
                · rw [if_neg c25] at H
                  exact absurd H (by simp)
        · rw [if_neg c7] at H
          exact absurd H (by simp)
      · rw [if_neg c6] at H
        exact absurd H (by simp)
/-! ### nat_Add: function 74 -/
def nat_Add.l0 : Nat → List Int → List (List Int) → Int → Int → Option (List Int)
  | 0, _, _, _, _ => none
  | k + 1, x3, x6, x7, x8 => if x8 < x7 then (if 0 ≤ x8 then (if x8 < (x6.length : Int) then ((nat_short.f k (rd_L3 x6 x8)).bind fun t351 => ((nat_plus.f k x3 t351).bind fun t354 => (nat_Add.l0 k t354 x6 x7 (wrap64 (x8 + 1))))) else (none)) else (none)) else ((nat_Trim.f k x3).bind fun t357 => (some t357))
def nat_Add.f (k : Nat) (l0 : List (List Int)) : Option (List Int) := nat_Add.l0 k ([] : List Int) l0 (l0.length : Int) 0
set_option maxHeartbeats 8000000 in
set_option maxRecDepth 100000 in
theorem nat_Add.calls (k : Nat) (A0 : Option Addr) (c0 : Nat) (l0 : List (List Int)) (r : List Int) (w : World) (hr0 : Kd.C (Kd.slice 79 (Kd.int .u32)) w A0 l0.length l0) (hc0 : l0.length ≤ c0) (h : nat_Add.f k l0 = some r) :
    Calls Try.prog 74 #[.slice A0 l0.length c0] w fun e w' => ∃ v0_ : Value, e = .returned (v0_) ∧ Kd.R (Kd.int .u32) 79 w' w.heap.size (fun _ => True) v0_ r ∧ Below w.heap.size w w' := by
  have HR0 := Aside0.mk hr0
  have HC0 := Aside0.mk hc0
  clear hr0 hc0
  have HB := Aside0.mk (Below.refl w.heap.size w)
  have H : (nat_Add.l0 k ([] : List Int) l0 (l0.length : Int) 0) = some r := h
  clear h
  have H' := Aside0.mk H
  clear H
  go_enter Try.func74, Try.ntmps74
  go_wp2
  go_loopg [3, 8] k (fun kq v3 v8 w' => ∃ (x3_1 : List Int) (x8_1 : Int), v8 = .int .i64 x8_1 ∧ Aside0 (nat_Add.l0 kq x3_1 l0 (l0.length : Int) x8_1 = some r) ∧ Aside0 (kq ≤ k) ∧ Aside0 (Kd.V (Kd.int .u32) 79 w' w.heap.size (fun _ => True) v3 x3_1) ∧ Aside0 (Below w.heap.size w w'))
  case atStart => exact ⟨(([] : List Int)), (0), (by first | rfl | (simp; done) | (simp [*]; done)), H', ⟨Nat.le_refl _⟩, ⟨Kd.R_V (base := 0) (by first | exact Kd.R_nil _ _ _ _ _ | exact Kd.N_nil _ _ _ _ _ | exact Kd.V_nil _ _ _ _ _ | exact Kd.Q_nil _ _ _ _ _ | exact Kd.S_nil _ _ _ _ _)⟩, ⟨by repeat (first | (with_reducible first | exact HB.out | apply below_alloc | apply pw_below_drewN | apply below_drew1) | exact HB.out)⟩⟩
  case round =>
    clear H'
    obtain ⟨x3_1, x8_1, rfl, HA, HK1, HO_3, HB⟩ := hrel
    cases gk with
    | zero => exact absurd HA.out (by simp [nat_Add.l0])
    | succ k1 =>
      have H := HA.out
      clear HA
      simp only [nat_Add.l0] at H
      by_cases c2 : x8_1 < (l0.length : Int)
      · rw [if_pos c2] at H
        have c2b0 : decide (x8_1 < (l0.length : Int)) = true := decide_eq_true c2
        clear c2
        by_cases c3 : 0 ≤ x8_1
        · rw [if_pos c3] at H
          have c3b0 : decide (0 ≤ x8_1) = true := decide_eq_true c3
          clear c3
          by_cases c4 : x8_1 < (l0.length : Int)
          · rw [if_pos c4] at H
            have c4b0 : decide (x8_1 < (l0.length : Int)) = true := decide_eq_true c4
            clear c4
            replace H := Option.bind_eq_some_iff.mp H
            obtain ⟨t351, A50, H⟩ := H
            replace H : ((nat_plus.f k1 x3_1 t351).bind fun t354 => (nat_Add.l0 k1 t354 l0 (l0.length : Int) (wrap64 (x8_1 + 1)))) = some r := H
            have A5 := Aside0.mk A50
            clear A50
            replace H := Option.bind_eq_some_iff.mp H
            obtain ⟨t354, A60, H⟩ := H
            replace H : (nat_Add.l0 k1 t354 l0 (l0.length : Int) (wrap64 (x8_1 + 1))) = some r := H
            have A6 := Aside0.mk A60
            clear A60
            have H' := Aside0.mk H
            clear H
            have p350 : 0 ≤ (x8_1 : Int) := of_decide_eq_true (by first | (with_reducible assumption) | assumption)
            have q350 : x8_1 < (l0.length : Int) := of_decide_eq_true (by first | (with_reducible assumption) | assumption)
            obtain ⟨ad350, A350_0, c350_0, e350, hx350_0, hl350_0, hi350_0⟩ := at_L3 HR0.out x8_1 p350 q350
            cases e350
            replace hx350_0 := (HB.out.cell (World.block_lt_of_cell? w _ hx350_0)).trans hx350_0
            have HR350_0 := Aside0.mk hi350_0
            have HC350_0 := Aside0.mk hl350_0
            clear hi350_0 hl350_0
            replace p350 := eq_true p350
            replace q350 := eq_true q350
            go_wp2_with (first | ((with_reducible refine gate_callee (f := 104) rfl ?_); refine goesL_ (some 14) rfl rfl Try.func104 (by kernel_rfl) rfl #[.slice A350_0 (rd_L3 l0 x8_1).length c350_0] rfl (by (try simp only [List.map_toArray, List.map_cons, List.map_nil]); first | done | rfl | (simp only [List.length_drop, List.length_take]; rfl)) ?_; (with_reducible refine (nat_short.calls k1 (fun k_ => k_ < w.heap.size) _ _ (rd_L3 l0 x8_1) t351 _ ?side1 A5.out).mono ?_); (case side1 => exact Kd.V_mk HC350_0.out (Kd.F_below (Kd.C_F (Kd.heap_int .u32) HR350_0.out) (by repeat (first | (with_reducible first | exact HB.out | apply below_alloc | apply pw_below_drewN | apply below_drew1) | exact HB.out)))); rintro e w7 ⟨v352, rfl, ho0, hb⟩; refine ⟨_, rfl, ?_⟩; have n0_ := Aside0.mk (Kd.V_below (by (with_reducible repeat (first | apply Kd.V_alloc | apply Kd.V_drewN | apply Kd.V_drew)); exact HO_3.out) hb); have n1_ := Aside0.mk (Kd.V_lower (Kd.V_mono (ok' := fun k_ => True) ho0 (fun k_ hk_ => trivial)) (below_size (by repeat (first | (with_reducible first | exact HB.out | apply below_alloc | apply pw_below_drewN | apply below_drew1) | exact HB.out)))); have n2_ := Aside0.mk (below_step (by repeat (first | (with_reducible first | exact HB.out | apply below_alloc | apply pw_below_drewN | apply below_drew1) | exact HB.out)) hb); clear HO_3; clear HB; have HO_3 := n0_; have HO353 := n1_; have HB := n2_; clear n0_ n1_ n2_; (try clear hb); (try clear hb2); (try clear hk); (try clear hi); (try clear ho0); obtain ⟨Ao8, co8, eo8⟩ := Kd.V_slice HO_3.out; subst eo8; obtain ⟨Ao9, co9, eo9⟩ := Kd.V_slice HO353.out; subst eo9) | ((with_reducible refine gate_callee (f := 107) rfl ?_); refine goesL_ (some 15) rfl rfl Try.func107 (by kernel_rfl) rfl #[.slice Ao8 x3_1.length co8, .slice Ao9 t351.length co9] rfl (by (try simp only [List.map_toArray, List.map_cons, List.map_nil]); first | done | rfl | (simp only [List.length_drop, List.length_take]; rfl)) ?_; (with_reducible refine (nat_plus.calls k1 (fun k_ => True) _ _ x3_1 (fun k_ => True) _ _ t351 t354 _ ?side1 ?side2 A6.out).mono ?_); (case side1 => exact HO_3.out); (case side2 => exact HO353.out); rintro e w10 ⟨v355, rfl, ho0, hb⟩; refine ⟨_, rfl, ?_⟩; have n0_ := Aside0.mk (Kd.V_below (by (with_reducible repeat (first | apply Kd.V_alloc | apply Kd.V_drewN | apply Kd.V_drew)); exact HO_3.out) hb); have n1_ := Aside0.mk (Kd.V_below (by (with_reducible repeat (first | apply Kd.V_alloc | apply Kd.V_drewN | apply Kd.V_drew)); exact HO353.out) hb); have n2_ := Aside0.mk (Kd.V_lower (Kd.V_mono (ok' := fun k_ => True) ho0 (fun k_ hk_ => trivial)) (below_size (by repeat (first | (with_reducible first | exact HB.out | apply below_alloc | apply pw_below_drewN | apply below_drew1) | exact HB.out)))); have n3_ := Aside0.mk (below_step (by repeat (first | (with_reducible first | exact HB.out | apply below_alloc | apply pw_below_drewN | apply below_drew1) | exact HB.out)) hb); clear HO_3; clear HO353; clear HB; have HO_3 := n0_; have HO353 := n1_; have HO356 := n2_; have HB := n3_; clear n0_ n1_ n2_ n3_; (try clear hb); (try clear hb2); (try clear hk); (try clear hi); (try clear ho0)))
            go_roundg k1
            case measure => have := HK1.out; omega
            case rel => exact ⟨(t354), (wrap64 (x8_1 + 1)), (by first | rfl | (simp; done) | (simp [*]; done)), H', ⟨by have := HK1.out; omega⟩, ⟨by (with_reducible repeat (first | apply Kd.V_alloc | apply Kd.V_drewN | apply Kd.V_drew)); exact HO356.out⟩, ⟨by repeat (first | (with_reducible first | exact HB.out | apply below_alloc | apply pw_below_drewN | apply below_drew1) | exact HB.out)⟩⟩
          · rw [if_neg c4] at H
            exact absurd H (by simp)
        · rw [if_neg c3] at H
          exact absurd H (by simp)
      · rw [if_neg c2] at H
        have c2b0 : decide (x8_1 < (l0.length : Int)) = false := decide_eq_false c2
        clear c2
        replace H := Option.bind_eq_some_iff.mp H
        obtain ⟨t357, A110, H⟩ := H
        replace H : (some t357) = some r := H
        have A11 := Aside0.mk A110
        clear A110
        obtain rfl := Option.some.inj H
        obtain ⟨Ao12, co12, eo12⟩ := Kd.V_slice HO_3.out
        subst eo12
        go_wp2_with (first | ((with_reducible refine gate_callee (f := 105) rfl ?_); refine goesL_ (some 18) rfl rfl Try.func105 (by kernel_rfl) rfl #[.slice Ao12 x3_1.length co12] rfl (by (try simp only [List.map_toArray, List.map_cons, List.map_nil]); first | done | rfl | (simp only [List.length_drop, List.length_take]; rfl)) ?_; (with_reducible refine (nat_Trim.calls k1 _ _ x3_1 t357 _ ?side1 ?side2 A11.out).mono ?_); (case side1 => repeat (first | exact (Kd.V_reads' HO_3.out).2.2 | (with_reducible refine Kd.C_alloc ?_ _) | (with_reducible refine Kd.C_drewN ?_ _) | (with_reducible refine Kd.C_drew ?_))); (case side2 => exact (Kd.V_reads' HO_3.out).2.1); rintro e w13 ⟨v358, rfl, ho0, hb⟩; refine ⟨_, rfl, ?_⟩; have n0_ := Aside0.mk (Kd.V_elder' (by (with_reducible repeat (first | apply Kd.V_alloc | apply Kd.V_drewN | apply Kd.V_drew)); exact HO_3.out) (Kd.R_base ho0) hb); have n1_ := Aside0.mk (Kd.R_lower ho0 (below_size (by repeat (first | (with_reducible first | exact HB.out | apply below_alloc | apply pw_below_drewN | apply below_drew1) | exact HB.out)))); have n2_ := Aside0.mk (below_step (by repeat (first | (with_reducible first | exact HB.out | apply below_alloc | apply pw_below_drewN | apply below_drew1) | exact HB.out)) hb); clear HO_3; clear HB; have HO_3 := n0_; have HO359 := n1_; have HB := n2_; clear n0_ n1_ n2_; (try clear hb); (try clear hb2); (try clear hk); (try clear hi); (try clear ho0)))
        go_ret
        exact ⟨_, by first | rfl | (simp [errW_none, errW_some] <;> rfl) | (simp [*, errW_none, errW_some] <;> rfl), by (with_reducible repeat (first | apply Kd.R_alloc | apply Kd.R_drewN | apply Kd.R_drew)); exact HO359.out, by repeat (first | (with_reducible first | exact HB.out | apply below_alloc | apply pw_below_drewN | apply below_drew1) | exact HB.out)⟩
/-! ### bounds_volume: function 58 -/
def bounds_volume.l0 : Nat → Int → Int → Int → List Int → Int → Option (List Int)
  | 0, _, _, _, _, _ => none
  | k + 1, x0, x1, x2, x7, x8 => if x8 ≤ x2 then ((bounds_choose.f k x1 x8).bind fun t360 => ((bounds_power.f k (wrap64 (x0 - 1)) x8).bind fun t363 => ((nat_Mul.f k (([t360, t363] : List (List Int)))).bind fun t369 => ((nat_Add.f k (([x7, t369] : List (List Int)))).bind fun t375 => (bounds_volume.l0 k x0 x1 x2 t375 (wrap64 (x8 + 1))))))) else (some x7)
def bounds_volume.f (k : Nat) (a0 : Int) (a1 : Int) (a2 : Int) : Option (List Int) := bounds_volume.l0 k a0 a1 a2 ([] : List Int) 0
set_option maxHeartbeats 8000000 in
set_option maxRecDepth 100000 in
theorem bounds_volume.calls (k : Nat) (a0 : Int) (a1 : Int) (a2 : Int) (r : List Int) (w : World) (h : bounds_volume.f k a0 a1 a2 = some r) :
    Calls Try.prog 58 #[.int .i64 a0, .int .i64 a1, .int .i64 a2] w fun e w' => ∃ v0_ : Value, e = .returned (v0_) ∧ Kd.R (Kd.int .u32) 79 w' w.heap.size (fun _ => True) v0_ r ∧ Below w.heap.size w w' := by
  have HB := Aside0.mk (Below.refl w.heap.size w)
  have H : (bounds_volume.l0 k a0 a1 a2 ([] : List Int) 0) = some r := h
  clear h
  have H' := Aside0.mk H
  clear H
  go_enter Try.func58, Try.ntmps58
  go_wp2
  go_loopg [7, 8] k (fun kq v7 v8 w' => ∃ (x7_1 : List Int) (x8_1 : Int), v8 = .int .i64 x8_1 ∧ Aside0 (bounds_volume.l0 kq a0 a1 a2 x7_1 x8_1 = some r) ∧ Aside0 (kq ≤ k) ∧ Aside0 (Kd.R (Kd.int .u32) 79 w' w.heap.size (fun _ => True) v7 x7_1) ∧ Aside0 (Below w.heap.size w w'))
  case atStart => exact ⟨(([] : List Int)), (0), (by first | rfl | (simp; done) | (simp [*]; done)), H', ⟨Nat.le_refl _⟩, ⟨by first | exact Kd.R_nil _ _ _ _ _ | exact Kd.N_nil _ _ _ _ _ | exact Kd.V_nil _ _ _ _ _ | exact Kd.Q_nil _ _ _ _ _ | exact Kd.S_nil _ _ _ _ _⟩, ⟨by repeat (first | (with_reducible first | exact HB.out | apply below_alloc | apply pw_below_drewN | apply below_drew1) | exact HB.out)⟩⟩
  case round =>
    clear H'
    try clear p2
    obtain ⟨x7_1, x8_1, rfl, HA, HK1, HO_7, HB⟩ := hrel
    cases gk with
    | zero => exact absurd HA.out (by simp [bounds_volume.l0])
    | succ k1 =>
      have H := HA.out
      clear HA
      simp only [bounds_volume.l0] at H
      by_cases c4 : x8_1 ≤ a2
      · rw [if_pos c4] at H
        have c4b0 : decide (x8_1 ≤ a2) = true := decide_eq_true c4
        clear c4
        replace H := Option.bind_eq_some_iff.mp H
        obtain ⟨t360, A50, H⟩ := H
        replace H : ((bounds_power.f k1 (wrap64 (a0 - 1)) x8_1).bind fun t363 => ((nat_Mul.f k1 (([t360, t363] : List (List Int)))).bind fun t369 => ((nat_Add.f k1 (([x7_1, t369] : List (List Int)))).bind fun t375 => (bounds_volume.l0 k1 a0 a1 a2 t375 (wrap64 (x8_1 + 1)))))) = some r := H
        have A5 := Aside0.mk A50
        clear A50
        replace H := Option.bind_eq_some_iff.mp H
        obtain ⟨t363, A60, H⟩ := H
        replace H : ((nat_Mul.f k1 (([t360, t363] : List (List Int)))).bind fun t369 => ((nat_Add.f k1 (([x7_1, t369] : List (List Int)))).bind fun t375 => (bounds_volume.l0 k1 a0 a1 a2 t375 (wrap64 (x8_1 + 1))))) = some r := H
        have A6 := Aside0.mk A60
        clear A60
        obtain ⟨y366, hy366⟩ : ∃ y_ : List (List Int), y_ = (([t360, t363] : List (List Int))) := ⟨_, rfl⟩
        replace H : ((nat_Mul.f k1 y366).bind fun t369 => ((nat_Add.f k1 (([x7_1, t369] : List (List Int)))).bind fun t375 => (bounds_volume.l0 k1 a0 a1 a2 t375 (wrap64 (x8_1 + 1))))) = some r := by first | (rw [hy366]; with_reducible exact H) | (have H2_ := (Option.bind_some _ _).symm.trans H; rw [hy366]; with_reducible exact H2_) | (have H2_ := (Option.bind_some _ _).symm.trans H; with_reducible exact H2_) | with_reducible exact H | (rw [hy366]; exact H) | exact H
        have Ny366 := Aside0.mk hy366
        clear hy366
        replace H := Option.bind_eq_some_iff.mp H
        obtain ⟨t369, A70, H⟩ := H
        replace H : ((nat_Add.f k1 (([x7_1, t369] : List (List Int)))).bind fun t375 => (bounds_volume.l0 k1 a0 a1 a2 t375 (wrap64 (x8_1 + 1)))) = some r := H
        have A7 := Aside0.mk A70
        clear A70
        obtain ⟨y372, hy372⟩ : ∃ y_ : List (List Int), y_ = (([x7_1, t369] : List (List Int))) := ⟨_, rfl⟩
        replace H : ((nat_Add.f k1 y372).bind fun t375 => (bounds_volume.l0 k1 a0 a1 a2 t375 (wrap64 (x8_1 + 1)))) = some r := by first | (rw [hy372]; with_reducible exact H) | (have H2_ := (Option.bind_some _ _).symm.trans H; rw [hy372]; with_reducible exact H2_) | (have H2_ := (Option.bind_some _ _).symm.trans H; with_reducible exact H2_) | with_reducible exact H | (rw [hy372]; exact H) | exact H
        have Ny372 := Aside0.mk hy372
        clear hy372
        replace H := Option.bind_eq_some_iff.mp H
        obtain ⟨t375, A80, H⟩ := H
        replace H : (bounds_volume.l0 k1 a0 a1 a2 t375 (wrap64 (x8_1 + 1))) = some r := H
        have A8 := Aside0.mk A80
        clear A80
        have H' := Aside0.mk H
        clear H
        go_wp2_with (first | ((with_reducible refine gate_callee (f := 72) rfl ?_); refine goesL_ (some 17) rfl rfl Try.func72 (by kernel_rfl) rfl #[.int .i64 a1, .int .i64 x8_1] rfl (by (try simp only [List.map_toArray, List.map_cons, List.map_nil]); first | done | rfl | (simp only [List.length_drop, List.length_take]; rfl)) ?_; (with_reducible refine (bounds_choose.calls k1 a1 x8_1 t360 _ A5.out).mono ?_); rintro e w9 ⟨v361, rfl, ho0, hb⟩; refine ⟨_, rfl, ?_⟩; have n0_ := Aside0.mk (Kd.R_elder' (by (with_reducible repeat (first | apply Kd.R_alloc | apply Kd.R_drewN | apply Kd.R_drew)); exact HO_7.out) (Kd.R_base ho0) hb); have n1_ := Aside0.mk (Kd.R_lower (Kd.R_new' ho0 (Kd.R_lt (by (with_reducible repeat (first | apply Kd.R_alloc | apply Kd.R_drewN | apply Kd.R_drew)); exact HO_7.out))) (below_size (by repeat (first | (with_reducible first | exact HB.out | apply below_alloc | apply pw_below_drewN | apply below_drew1) | exact HB.out)))); have n2_ := Aside0.mk (below_step (by repeat (first | (with_reducible first | exact HB.out | apply below_alloc | apply pw_below_drewN | apply below_drew1) | exact HB.out)) hb); clear HO_7; clear HB; have HO_7 := n0_; have HO362 := n1_; have HB := n2_; clear n0_ n1_ n2_; (try clear hb); (try clear hb2); (try clear hk); (try clear hi); (try clear ho0)) | ((with_reducible refine gate_callee (f := 65) rfl ?_); refine goesL_ (some 21) rfl rfl Try.func65 (by kernel_rfl) rfl #[.int .i64 (wrap64 (a0 - 1)), .int .i64 x8_1] rfl (by (try simp only [List.map_toArray, List.map_cons, List.map_nil]); first | done | rfl | (simp only [List.length_drop, List.length_take]; rfl)) ?_; (with_reducible refine (bounds_power.calls k1 (wrap64 (a0 - 1)) x8_1 t363 _ A6.out).mono ?_); rintro e w10 ⟨v364, rfl, ho0, hb⟩; refine ⟨_, rfl, ?_⟩; have n0_ := Aside0.mk (Kd.R_elder' (by (with_reducible repeat (first | apply Kd.R_alloc | apply Kd.R_drewN | apply Kd.R_drew)); exact HO_7.out) (Kd.R_base ho0) hb); have n1_ := Aside0.mk (Kd.R_elder' (by (with_reducible repeat (first | apply Kd.R_alloc | apply Kd.R_drewN | apply Kd.R_drew)); exact HO362.out) (Kd.R_base ho0) hb); have n2_ := Aside0.mk (Kd.R_lower (Kd.R_new' (Kd.R_new' ho0 (Kd.R_lt (by (with_reducible repeat (first | apply Kd.R_alloc | apply Kd.R_drewN | apply Kd.R_drew)); exact HO_7.out))) (Kd.R_lt (by (with_reducible repeat (first | apply Kd.R_alloc | apply Kd.R_drewN | apply Kd.R_drew)); exact HO362.out))) (below_size (by repeat (first | (with_reducible first | exact HB.out | apply below_alloc | apply pw_below_drewN | apply below_drew1) | exact HB.out)))); have n3_ := Aside0.mk (below_step (by repeat (first | (with_reducible first | exact HB.out | apply below_alloc | apply pw_below_drewN | apply below_drew1) | exact HB.out)) hb); clear HO_7; clear HO362; clear HB; have HO_7 := n0_; have HO362 := n1_; have HO365 := n2_; have HB := n3_; clear n0_ n1_ n2_ n3_; (try clear hb); (try clear hb2); (try clear hk); (try clear hi); (try clear ho0); obtain ⟨Ao11, co11, eo11⟩ := Kd.R_slice HO362.out; subst eo11; obtain ⟨Ao12, co12, eo12⟩ := Kd.R_slice HO365.out; subst eo12) | ((with_reducible refine gate_dst (N := 22) rfl ?_); refine Kd.N_lit (Kd.slice 79 (Kd.int .u32)) _ 32 ?hg (N' := 22) ?hd (xs := ([t360, t363] : List (List Int))) (inner := [.slice Ao11 t360.length co11, .slice Ao12 t363.length co12]) (ok := (fun k_ => some k_ ≠ (u7 : Value).ownBlock)) (okp := (fun k_ => some k_ ≠ (u7 : Value).ownBlock)) ?hr ?hp (fun _ hk => hk) ((show ∀ k_, w10.heap.size ≤ k_ → (fun k_ => some k_ ≠ (u7 : Value).ownBlock) k_ from fun k_ hk => Kd.fresh' (Kd.R_lt (by (with_reducible repeat (first | apply Kd.R_alloc | apply Kd.R_drewN | apply Kd.R_drew)); exact HO_7.out)) k_ hk) _ (Nat.le_refl _)) (Below.refl _ _) (Nat.le_refl _) (by simp) ?_; (case hd => rfl); (case hg => rfl); (case hr => first | (go_simp; done) | (go_simp; rfl)); (case hp => exact (Reps.one (show Kd.FK (Kd.slice 79 (Kd.int .u32)) _ _ t360 [.slice Ao11 t360.length co11] from (Kd.FK_slice_mk (Kd.R_reads' (Kd.R_mono (ok' := (fun k_ => some k_ ≠ (u7 : Value).ownBlock)) (HO362.out) (fun k_ hk => hk.1.2))).2.1 (Kd.R_F (Kd.R_mono (ok' := (fun k_ => some k_ ≠ (u7 : Value).ownBlock)) (HO362.out) (fun k_ hk => hk.1.2))))) (Reps.one (show Kd.FK (Kd.slice 79 (Kd.int .u32)) _ _ t363 [.slice Ao12 t363.length co12] from (Kd.FK_slice_mk (Kd.R_reads' (Kd.R_mono (ok' := (fun k_ => some k_ ≠ (u7 : Value).ownBlock)) (HO365.out) (fun k_ hk => hk.1.2))).2.1 (Kd.R_F (Kd.R_mono (ok' := (fun k_ => some k_ ≠ (u7 : Value).ownBlock)) (HO365.out) (fun k_ hk => hk.1.2))))) (Reps.none _ _)))); intro v367 w13 ho14 hb hg_ hnew_; clear hg_ hnew_; (first | rw [← Ny366.out] at ho14 | (simp only [Int.reduceToNat] at ho14; rw [← Ny366.out] at ho14)); have n0_ := Aside0.mk (Kd.R_below (by (with_reducible repeat (first | apply Kd.R_alloc | apply Kd.R_drewN | apply Kd.R_drew)); exact HO_7.out) hb); have n1_ := Aside0.mk (Kd.N_lower ho14 (below_size (by repeat (first | (with_reducible first | exact HB.out | apply below_alloc | apply pw_below_drewN | apply below_drew1) | exact HB.out)))); have n2_ := Aside0.mk (below_step (by repeat (first | (with_reducible first | exact HB.out | apply below_alloc | apply pw_below_drewN | apply below_drew1) | exact HB.out)) hb); clear HO_7; clear HB; clear HO362; clear HO365; have HO_7 := n0_; have HO368 := n1_; have HB := n2_; clear n0_ n1_ n2_; clear hb ho14; obtain ⟨Ao15, co15, eo15⟩ := Kd.N_slice HO368.out; subst eo15) | ((with_reducible refine gate_callee (f := 68) rfl ?_); refine goesL_ (some 23) rfl rfl Try.func68 (by kernel_rfl) rfl #[.slice Ao15 y366.length co15] rfl (by (try simp only [List.map_toArray, List.map_cons, List.map_nil]); first | done | rfl | (simp only [List.length_drop, List.length_take]; rfl)) ?_; (with_reducible refine (nat_Mul.calls k1 _ _ y366 t369 _ ?side1 ?side2 A7.out).mono ?_); (case side1 => repeat (first | exact (Kd.N_reads' HO368.out).2.2 | (with_reducible refine Kd.C_alloc ?_ _) | (with_reducible refine Kd.C_drewN ?_ _) | (with_reducible refine Kd.C_drew ?_))); (case side2 => exact (Kd.N_reads' HO368.out).2.1); rintro e w16 ⟨v370, rfl, ho0, hb⟩; refine ⟨_, rfl, ?_⟩; have n0_ := Aside0.mk (Kd.R_elder' (by (with_reducible repeat (first | apply Kd.R_alloc | apply Kd.R_drewN | apply Kd.R_drew)); exact HO_7.out) (Kd.R_base ho0) hb); have n1_ := Aside0.mk (Kd.N_elder' (by (with_reducible repeat (first | apply Kd.N_alloc | apply Kd.N_drewN | apply Kd.N_drew)); exact HO368.out) (Kd.R_base ho0) hb); have n2_ := Aside0.mk (Kd.R_lower (Kd.R_new' ho0 (Kd.R_lt (by (with_reducible repeat (first | apply Kd.R_alloc | apply Kd.R_drewN | apply Kd.R_drew)); exact HO_7.out))) (below_size (by repeat (first | (with_reducible first | exact HB.out | apply below_alloc | apply pw_below_drewN | apply below_drew1) | exact HB.out)))); have n3_ := Aside0.mk (below_step (by repeat (first | (with_reducible first | exact HB.out | apply below_alloc | apply pw_below_drewN | apply below_drew1) | exact HB.out)) hb); clear HO_7; clear HO368; clear HB; have HO_7 := n0_; have HO368 := n1_; have HO371 := n2_; have HB := n3_; clear n0_ n1_ n2_ n3_; (try clear hb); (try clear hb2); (try clear hk); (try clear hi); (try clear ho0); obtain ⟨Ao17, co17, eo17⟩ := Kd.R_slice HO_7.out; subst eo17; obtain ⟨Ao18, co18, eo18⟩ := Kd.R_slice HO371.out; subst eo18) | ((with_reducible refine gate_dst (N := 24) rfl ?_); refine Kd.N_lit (Kd.slice 79 (Kd.int .u32)) _ 32 ?hg (N' := 24) ?hd (xs := ([x7_1, t369] : List (List Int))) (inner := [.slice Ao17 x7_1.length co17, .slice Ao18 t369.length co18]) (ok := (fun k_ => some k_ ≠ (.slice Ao15 y366.length co15 : Value).ownBlock)) (okp := (fun k_ => some k_ ≠ (.slice Ao15 y366.length co15 : Value).ownBlock)) ?hr ?hp (fun _ hk => hk) ((show ∀ k_, w16.heap.size ≤ k_ → (fun k_ => some k_ ≠ (.slice Ao15 y366.length co15 : Value).ownBlock) k_ from fun k_ hk => Kd.fresh' (Kd.N_lt (by (with_reducible repeat (first | apply Kd.N_alloc | apply Kd.N_drewN | apply Kd.N_drew)); exact HO368.out)) k_ hk) _ (Nat.le_refl _)) (Below.refl _ _) (Nat.le_refl _) (by simp) ?_; (case hd => rfl); (case hg => rfl); (case hr => first | (go_simp; done) | (go_simp; rfl)); (case hp => exact (Reps.one (show Kd.FK (Kd.slice 79 (Kd.int .u32)) _ _ x7_1 [.slice Ao17 x7_1.length co17] from (Kd.FK_slice_mk (Kd.R_reads' (Kd.R_mono (ok' := (fun k_ => some k_ ≠ (.slice Ao15 y366.length co15 : Value).ownBlock)) (Kd.R_apart' (HO_7.out) (Kd.N_typed HO368.out) (by decide)) (fun k_ hk => hk.2))).2.1 (Kd.R_F (Kd.R_mono (ok' := (fun k_ => some k_ ≠ (.slice Ao15 y366.length co15 : Value).ownBlock)) (Kd.R_apart' (HO_7.out) (Kd.N_typed HO368.out) (by decide)) (fun k_ hk => hk.2))))) (Reps.one (show Kd.FK (Kd.slice 79 (Kd.int .u32)) _ _ t369 [.slice Ao18 t369.length co18] from (Kd.FK_slice_mk (Kd.R_reads' (Kd.R_mono (ok' := (fun k_ => some k_ ≠ (.slice Ao15 y366.length co15 : Value).ownBlock)) (Kd.R_apart' (HO371.out) (Kd.N_typed HO368.out) (by decide)) (fun k_ hk => hk.2))).2.1 (Kd.R_F (Kd.R_mono (ok' := (fun k_ => some k_ ≠ (.slice Ao15 y366.length co15 : Value).ownBlock)) (Kd.R_apart' (HO371.out) (Kd.N_typed HO368.out) (by decide)) (fun k_ hk => hk.2))))) (Reps.none _ _)))); intro v373 w19 ho20 hb hg_ hnew_; clear hg_ hnew_; (first | rw [← Ny372.out] at ho20 | (simp only [Int.reduceToNat] at ho20; rw [← Ny372.out] at ho20)); have n0_ := Aside0.mk (Kd.N_elder' (by (with_reducible repeat (first | apply Kd.N_alloc | apply Kd.N_drewN | apply Kd.N_drew)); exact HO368.out) (Kd.N_base ho20) hb); have n1_ := Aside0.mk (Kd.N_lower ho20 (below_size (by repeat (first | (with_reducible first | exact HB.out | apply below_alloc | apply pw_below_drewN | apply below_drew1) | exact HB.out)))); have n2_ := Aside0.mk (below_step (by repeat (first | (with_reducible first | exact HB.out | apply below_alloc | apply pw_below_drewN | apply below_drew1) | exact HB.out)) hb); clear HO368; clear HB; clear HO371; clear HO_7; have HO368 := n0_; have HO374 := n1_; have HB := n2_; clear n0_ n1_ n2_; clear hb ho20; obtain ⟨Ao21, co21, eo21⟩ := Kd.N_slice HO374.out; subst eo21) | ((with_reducible refine gate_callee (f := 74) rfl ?_); refine goesL_ (some 25) rfl rfl Try.func74 (by kernel_rfl) rfl #[.slice Ao21 y372.length co21] rfl (by (try simp only [List.map_toArray, List.map_cons, List.map_nil]); first | done | rfl | (simp only [List.length_drop, List.length_take]; rfl)) ?_; (with_reducible refine (nat_Add.calls k1 _ _ y372 t375 _ ?side1 ?side2 A8.out).mono ?_); (case side1 => repeat (first | exact (Kd.N_reads' HO374.out).2.2 | (with_reducible refine Kd.C_alloc ?_ _) | (with_reducible refine Kd.C_drewN ?_ _) | (with_reducible refine Kd.C_drew ?_))); (case side2 => exact (Kd.N_reads' HO374.out).2.1); rintro e w22 ⟨v376, rfl, ho0, hb⟩; refine ⟨_, rfl, ?_⟩; have n0_ := Aside0.mk (Kd.N_elder' (by (with_reducible repeat (first | apply Kd.N_alloc | apply Kd.N_drewN | apply Kd.N_drew)); exact HO368.out) (Kd.R_base ho0) hb); have n1_ := Aside0.mk (Kd.N_elder' (by (with_reducible repeat (first | apply Kd.N_alloc | apply Kd.N_drewN | apply Kd.N_drew)); exact HO374.out) (Kd.R_base ho0) hb); have n2_ := Aside0.mk (Kd.R_lower ho0 (below_size (by repeat (first | (with_reducible first | exact HB.out | apply below_alloc | apply pw_below_drewN | apply below_drew1) | exact HB.out)))); have n3_ := Aside0.mk (below_step (by repeat (first | (with_reducible first | exact HB.out | apply below_alloc | apply pw_below_drewN | apply below_drew1) | exact HB.out)) hb); clear HO368; clear HO374; clear HB; have HO368 := n0_; have HO374 := n1_; have HO377 := n2_; have HB := n3_; clear n0_ n1_ n2_ n3_; (try clear hb); (try clear hb2); (try clear hk); (try clear hi); (try clear ho0)))
        go_roundg k1
        case measure => have := HK1.out; omega
        case rel => exact ⟨(t375), (wrap64 (x8_1 + 1)), (by first | rfl | (simp; done) | (simp [*]; done)), H', ⟨by have := HK1.out; omega⟩, ⟨by (with_reducible repeat (first | apply Kd.R_alloc | apply Kd.R_drewN | apply Kd.R_drew)); exact HO377.out⟩, ⟨by repeat (first | (with_reducible first | exact HB.out | apply below_alloc | apply pw_below_drewN | apply below_drew1) | exact HB.out)⟩⟩
      · rw [if_neg c4] at H
        have c4b0 : decide (x8_1 ≤ a2) = false := decide_eq_false c4
        clear c4
        obtain rfl := Option.some.inj H
        go_wp2
        go_ret
        exact ⟨_, by first | rfl | (simp [errW_none, errW_some] <;> rfl) | (simp [*, errW_none, errW_some] <;> rfl), by (with_reducible repeat (first | apply Kd.R_alloc | apply Kd.R_drewN | apply Kd.R_drew)); exact HO_7.out, by repeat (first | (with_reducible first | exact HB.out | apply below_alloc | apply pw_below_drewN | apply below_drew1) | exact HB.out)⟩
end Go.Proofs.Ytjignpnnmfdedaa.PBoundsBalls
