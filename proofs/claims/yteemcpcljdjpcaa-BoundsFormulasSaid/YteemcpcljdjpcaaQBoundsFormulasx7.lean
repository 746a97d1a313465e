/- A part of the print of this row, cut down to what the row uses. -/
import Derived.Test.YteemcpcljdjpcaaQBoundsFormulasx0
import Derived.Test.YteemcpcljdjpcaaQBoundsFormulasx1
import Derived.Test.YteemcpcljdjpcaaQBoundsFormulasx4
import Derived.Test.YteemcpcljdjpcaaQBoundsFormulasx5
import Derived.Test.YteemcpcljdjpcaaQBoundsFormulasx6
-- printed by a scratch copy of the print, turned (wip/tools/turn_print.py)
namespace Go.Proofs.Yteemcpcljdjpcaa.PBoundsFormulas
open Go.RowKit Go.Proofs.YteemcpcljdjpcaaW.PrintWords Go.Proofs.YteemcpcljdjpcaaW.PrintLast Go.Proofs.YteemcpcljdjpcaaW.PrintMore
attribute [local go_sem] max2_int min2_int max_two min_two max_three min_three max_four min_four   -- for this text's walks alone
set_option linter.unusedVariables false
set_option linter.unusedSimpArgs false
/-! ### nat_Add: function 42 -/
def nat_Add.l0 : Nat → List Int → List (List Int) → Int → Int → Option (List Int)
  | 0, _, _, _, _ => none
  | k + 1, x3, x6, x7, x8 => if x8 < x7 then (if 0 ≤ x8 then (if x8 < (x6.length : Int) then ((nat_short.f k (rd_L1 x6 x8)).bind fun t326 => ((nat_plus.f k x3 t326).bind fun t329 => (nat_Add.l0 k t329 x6 x7 (wrap64 (x8 + 1))))) else (none)) else (none)) else ((nat_Trim.f k x3).bind fun t332 => (some t332))
def nat_Add.f (k : Nat) (l0 : List (List Int)) : Option (List Int) := nat_Add.l0 k ([] : List Int) l0 (l0.length : Int) 0
set_option maxHeartbeats 8000000 in
set_option maxRecDepth 100000 in
theorem nat_Add.calls (k : Nat) (A0 : Option Addr) (c0 : Nat) (l0 : List (List Int)) (r : List Int) (w : World) (hr0 : Kd.C (Kd.slice 41 (Kd.int .u32)) w A0 l0.length l0) (hc0 : l0.length ≤ c0) (h : nat_Add.f k l0 = some r) :
    Calls Try.prog 42 #[.slice A0 l0.length c0] w fun e w' => ∃ v0_ : Value, e = .returned (v0_) ∧ Kd.R (Kd.int .u32) 41 w' w.heap.size (fun _ => True) v0_ r ∧ Below w.heap.size w w' := by
  have HR0 := Aside0.mk hr0
  have HC0 := Aside0.mk hc0
  clear hr0 hc0
  have HB := Aside0.mk (Below.refl w.heap.size w)
  have H : (nat_Add.l0 k ([] : List Int) l0 (l0.length : Int) 0) = some r := h
  clear h
  have H' := Aside0.mk H
  clear H
  go_enter Try.func42, Try.ntmps42
  go_wp2
  go_loopg [3, 8] k (fun kq v3 v8 w' => ∃ (x3_1 : List Int) (x8_1 : Int), v8 = .int .i64 x8_1 ∧ Aside0 (nat_Add.l0 kq x3_1 l0 (l0.length : Int) x8_1 = some r) ∧ Aside0 (kq ≤ k) ∧ Aside0 (Kd.V (Kd.int .u32) 41 w' w.heap.size (fun _ => True) v3 x3_1) ∧ Aside0 (Below w.heap.size w w'))
  case atStart => exact ⟨(([] : List Int)), (0), (by first | rfl | (simp; done) | (simp [*]; done)), H', ⟨Nat.le_refl _⟩, ⟨Kd.R_V (base := 0) (by first | exact Kd.R_nil _ _ _ _ _ | exact Kd.N_nil _ _ _ _ _ | exact Kd.V_nil _ _ _ _ _ | exact Kd.Q_nil _ _ _ _ _ | exact Kd.S_nil _ _ _ _ _)⟩, ⟨by repeat (first | (with_reducible first | exact HB.out | apply below_alloc | apply pw_below_drewN | apply below_drew1) | exact HB.out)⟩⟩
  case round =>
    clear H'
    obtain ⟨x3_1, x8_1, rfl, HA, HK1, HO_3, HB⟩ := hrel
    cases gk with
    | zero => exact absurd HA.out (by simp [nat_Add.l0])
    | succ k1 =>
      have H := HA.out
      clear HA
      simp only [nat_Add.l0] at H
      by_cases c2 : x8_1 < (l0.length : Int)
      · rw [if_pos c2] at H
        have c2b0 : decide (x8_1 < (l0.length : Int)) = true := decide_eq_true c2
        clear c2
        by_cases c3 : 0 ≤ x8_1
        · rw [if_pos c3] at H
          have c3b0 : decide (0 ≤ x8_1) = true := decide_eq_true c3
          clear c3
          by_cases c4 : x8_1 < (l0.length : Int)
          · rw [if_pos c4] at H
            have c4b0 : decide (x8_1 < (l0.length : Int)) = true := decide_eq_true c4
            clear c4
            replace H := Option.bind_eq_some_iff.mp H
            obtain ⟨t326, A50, H⟩ := H
            replace H : ((nat_plus.f k1 x3_1 t326).bind fun t329 => (nat_Add.l0 k1 t329 l0 (l0.length : Int) (wrap64 (x8_1 + 1)))) = some r := H
            have A5 := Aside0.mk A50
            clear A50
            replace H := Option.bind_eq_some_iff.mp H
            obtain ⟨t329, A60, H⟩ := H
            replace H : (nat_Add.l0 k1 t329 l0 (l0.length : Int) (wrap64 (x8_1 + 1))) = some r := H
            have A6 := Aside0.mk A60
            clear A60
            have H' := Aside0.mk H
            clear H
            have p325 : 0 ≤ (x8_1 : Int) := of_decide_eq_true (by first | (with_reducible assumption) | assumption)
            have q325 : x8_1 < (l0.length : Int) := of_decide_eq_true (by first | (with_reducible assumption) | assumption)
            obtain ⟨ad325, A325_0, c325_0, e325, hx325_0, hl325_0, hi325_0⟩ := at_L1 HR0.out x8_1 p325 q325
            cases e325
            replace hx325_0 := (HB.out.cell (World.block_lt_of_cell? w _ hx325_0)).trans hx325_0
            have HR325_0 := Aside0.mk hi325_0
            have HC325_0 := Aside0.mk hl325_0
            clear hi325_0 hl325_0
            replace p325 := eq_true p325
            replace q325 := eq_true q325
            go_wp2_with (first | ((with_reducible refine gate_callee (f := 50) rfl ?_); refine goesL_ (some 14) rfl rfl Try.func50 (by kernel_rfl) rfl #[.slice A325_0 (rd_L1 l0 x8_1).length c325_0] rfl (by (try simp only [List.map_toArray, List.map_cons, List.map_nil]); first | done | rfl | (simp only [List.length_drop, List.length_take]; rfl)) ?_; (with_reducible refine (nat_short.calls k1 (fun k_ => k_ < w.heap.size) _ _ (rd_L1 l0 x8_1) t326 _ ?side1 A5.out).mono ?_); (case side1 => exact Kd.V_mk HC325_0.out (Kd.F_below (Kd.C_F (Kd.heap_int .u32) HR325_0.out) (by repeat (first | (with_reducible first | exact HB.out | apply below_alloc | apply pw_below_drewN | apply below_drew1) | exact HB.out)))); rintro e w7 ⟨v327, rfl, ho0, hb⟩; refine ⟨_, rfl, ?_⟩; have n0_ := Aside0.mk (Kd.V_below (by (with_reducible repeat (first | apply Kd.V_alloc | apply Kd.V_drewN | apply Kd.V_drew)); exact HO_3.out) hb); have n1_ := Aside0.mk (Kd.V_lower (Kd.V_mono (ok' := fun k_ => True) ho0 (fun k_ hk_ => trivial)) (below_size (by repeat (first | (with_reducible first | exact HB.out | apply below_alloc | apply pw_below_drewN | apply below_drew1) | exact HB.out)))); have n2_ := Aside0.mk (below_step (by repeat (first | (with_reducible first | exact HB.out | apply below_alloc | apply pw_below_drewN | apply below_drew1) | exact HB.out)) hb); clear HO_3; clear HB; have HO_3 := n0_; have HO328 := n1_; have HB := n2_; clear n0_ n1_ n2_; (try clear hb); (try clear hb2); (try clear hk); (try clear hi); (try clear ho0); obtain ⟨Ao8, co8, eo8⟩ := Kd.V_slice HO_3.out; subst eo8; obtain ⟨Ao9, co9, eo9⟩ := Kd.V_slice HO328.out; subst eo9) | ((with_reducible refine gate_callee (f := 56) rfl ?_); refine goesL_ (some 15) rfl rfl Try.func56 (by kernel_rfl) rfl #[.slice Ao8 x3_1.length co8, .slice Ao9 t326.length co9] rfl (by (try simp only [List.map_toArray, List.map_cons, List.map_nil]); first | done | rfl | (simp only [List.length_drop, List.length_take]; rfl)) ?_; (with_reducible refine (nat_plus.calls k1 (fun k_ => True) _ _ x3_1 (fun k_ => True) _ _ t326 t329 _ ?side1 ?side2 A6.out).mono ?_); (case side1 => exact HO_3.out); (case side2 => exact HO328.out); rintro e w10 ⟨v330, rfl, ho0, hb⟩; refine ⟨_, rfl, ?_⟩; have n0_ := Aside0.mk (Kd.V_below (by (with_reducible repeat (first | apply Kd.V_alloc | apply Kd.V_drewN | apply Kd.V_drew)); exact HO_3.out) hb); have n1_ := Aside0.mk (Kd.V_below (by (with_reducible repeat (first | apply Kd.V_alloc | apply Kd.V_drewN | apply Kd.V_drew)); exact HO328.out) hb); have n2_ := Aside0.mk (Kd.V_lower (Kd.V_mono (ok' := fun k_ => True) ho0 (fun k_ hk_ => trivial)) (below_size (by repeat (first | (with_reducible first | exact HB.out | apply below_alloc | apply pw_below_drewN | apply below_drew1) | exact HB.out)))); have n3_ := Aside0.mk (below_step (by repeat (first | (with_reducible first | exact HB.out | apply below_alloc | apply pw_below_drewN | apply below_drew1) | exact HB.out)) hb); clear HO_3; clear HO328; clear HB; have HO_3 := n0_; have HO328 := n1_; have HO331 := n2_; have HB := n3_; clear n0_ n1_ n2_ n3_; (try clear hb); (try clear hb2); (try clear hk); (try clear hi); (try clear ho0)))
            go_roundg k1
            case measure => have := HK1.out; omega
            case rel => exact ⟨(t329), (wrap64 (x8_1 + 1)), (by first | rfl | (simp; done) | (simp [*]; done)), H', ⟨by have := HK1.out; omega⟩, ⟨by (with_reducible repeat (first | apply Kd.V_alloc | apply Kd.V_drewN | apply Kd.V_drew)); exact HO331.out⟩, ⟨by repeat (first | (with_reducible first | exact HB.out | apply below_alloc | apply pw_below_drewN | apply below_drew1) | exact HB.out)⟩⟩
          · rw [if_neg c4] at H
            exact absurd H (by simp)
        · rw [if_neg c3] at H
          exact absurd H (by simp)
      · rw [if_neg c2] at H
        have c2b0 : decide (x8_1 < (l0.length : Int)) = false := decide_eq_false c2
        clear c2
        replace H := Option.bind_eq_some_iff.mp H
        obtain ⟨t332, A110, H⟩ := H
        replace H : (some t332) = some r := H
        have A11 := Aside0.mk A110
        clear A110
        obtain rfl := Option.some.inj H
        obtain ⟨Ao12, co12, eo12⟩ := Kd.V_slice HO_3.out
        subst eo12
        go_wp2_with (first | ((with_reducible refine gate_callee (f := 51) rfl ?_); refine goesL_ (some 18) rfl rfl Try.func51 (by kernel_rfl) rfl #[.slice Ao12 x3_1.length co12] rfl (by (try simp only [List.map_toArray, List.map_cons, List.map_nil]); first | done | rfl | (simp only [List.length_drop, List.length_take]; rfl)) ?_; (with_reducible refine (nat_Trim.calls k1 _ _ x3_1 t332 _ ?side1 ?side2 A11.out).mono ?_); (case side1 => repeat (first | exact (Kd.V_reads' HO_3.out).2.2 | (with_reducible refine Kd.C_alloc ?_ _) | (with_reducible refine Kd.C_drewN ?_ _) | (with_reducible refine Kd.C_drew ?_))); (case side2 => exact (Kd.V_reads' HO_3.out).2.1); rintro e w13 ⟨v333, rfl, ho0, hb⟩; refine ⟨_, rfl, ?_⟩; have n0_ := Aside0.mk (Kd.V_elder' (by (with_reducible repeat (first | apply Kd.V_alloc | apply Kd.V_drewN | apply Kd.V_drew)); exact HO_3.out) (Kd.R_base ho0) hb); have n1_ := Aside0.mk (Kd.R_lower ho0 (below_size (by repeat (first | (with_reducible first | exact HB.out | apply below_alloc | apply pw_below_drewN | apply below_drew1) | exact HB.out)))); have n2_ := Aside0.mk (below_step (by repeat (first | (with_reducible first | exact HB.out | apply below_alloc | apply pw_below_drewN | apply below_drew1) | exact HB.out)) hb); clear HO_3; clear HB; have HO_3 := n0_; have HO334 := n1_; have HB := n2_; clear n0_ n1_ n2_; (try clear hb); (try clear hb2); (try clear hk); (try clear hi); (try clear ho0)))
        go_ret
        exact ⟨_, by first | rfl | (simp [errW_none, errW_some] <;> rfl) | (simp [*, errW_none, errW_some] <;> rfl), by (with_reducible repeat (first | apply Kd.R_alloc | apply Kd.R_drewN | apply Kd.R_drew)); exact HO334.out, by repeat (first | (with_reducible first | exact HB.out | apply below_alloc | apply pw_below_drewN | apply below_drew1) | exact HB.out)⟩
/-! ### bounds_volume: function 27 -/
def bounds_volume.l0 : Nat → Int → Int → Int → List Int → Int → Option (List Int)
  | 0, _, _, _, _, _ => none
  | k + 1, x0, x1, x2, x7, x8 => if x8 ≤ x2 then ((bounds_choose.f k x1 x8).bind fun t335 => ((bounds_power.f k (wrap64 (x0 - 1)) x8).bind fun t338 => ((nat_Mul.f k (([t335, t338] : List (List Int)))).bind fun t344 => ((nat_Add.f k (([x7, t344] : List (List Int)))).bind fun t350 => (bounds_volume.l0 k x0 x1 x2 t350 (wrap64 (x8 + 1))))))) else (some x7)
def bounds_volume.f (k : Nat) (a0 : Int) (a1 : Int) (a2 : Int) : Option (List Int) := bounds_volume.l0 k a0 a1 a2 ([] : List Int) 0
set_option maxHeartbeats 8000000 in
set_option maxRecDepth 100000 in
theorem bounds_volume.calls (k : Nat) (a0 : Int) (a1 : Int) (a2 : Int) (r : List Int) (w : World) (h : bounds_volume.f k a0 a1 a2 = some r) :
    Calls Try.prog 27 #[.int .i64 a0, .int .i64 a1, .int .i64 a2] w fun e w' => ∃ v0_ : Value, e = .returned (v0_) ∧ Kd.R (Kd.int .u32) 41 w' w.heap.size (fun _ => True) v0_ r ∧ Below w.heap.size w w' := by
  have HB := Aside0.mk (Below.refl w.heap.size w)
  have H : (bounds_volume.l0 k a0 a1 a2 ([] : List Int) 0) = some r := h
  clear h
  have H' := Aside0.mk H
  clear H
  go_enter Try.func27, Try.ntmps27
  go_wp2
  go_loopg [7, 8] k (fun kq v7 v8 w' => ∃ (x7_1 : List Int) (x8_1 : Int), v8 = .int .i64 x8_1 ∧ Aside0 (bounds_volume.l0 kq a0 a1 a2 x7_1 x8_1 = some r) ∧ Aside0 (kq ≤ k) ∧ Aside0 (Kd.R (Kd.int .u32) 41 w' w.heap.size (fun _ => True) v7 x7_1) ∧ Aside0 (Below w.heap.size w w'))
  case atStart => exact ⟨(([] : List Int)), (0), (by first | rfl | (simp; done) | (simp [*]; done)), H', ⟨Nat.le_refl _⟩, ⟨by first | exact Kd.R_nil _ _ _ _ _ | exact Kd.N_nil _ _ _ _ _ | exact Kd.V_nil _ _ _ _ _ | exact Kd.Q_nil _ _ _ _ _ | exact Kd.S_nil _ _ _ _ _⟩, ⟨by repeat (first | (with_reducible first | exact HB.out | apply below_alloc | apply pw_below_drewN | apply below_drew1) | exact HB.out)⟩⟩
  case round =>
    clear H'
    try clear c2
    try clear p2
    obtain ⟨x7_1, x8_1, rfl, HA, HK1, HO_7, HB⟩ := hrel
    cases gk with
    | zero => exact absurd HA.out (by simp [bounds_volume.l0])
    | succ k1 =>
      have H := HA.out
      clear HA
      simp only [bounds_volume.l0] at H
      by_cases c4 : x8_1 ≤ a2
      · rw [if_pos c4] at H
        have c4b0 : decide (x8_1 ≤ a2) = true := decide_eq_true c4
        clear c4
        replace H := Option.bind_eq_some_iff.mp H
        obtain ⟨t335, A50, H⟩ := H
        replace H : ((bounds_power.f k1 (wrap64 (a0 - 1)) x8_1).bind fun t338 => ((nat_Mul.f k1 (([t335, t338] : List (List Int)))).bind fun t344 => ((nat_Add.f k1 (([x7_1, t344] : List (List Int)))).bind fun t350 => (bounds_volume.l0 k1 a0 a1 a2 t350 (wrap64 (x8_1 + 1)))))) = some r := H
        have A5 := Aside0.mk A50
        clear A50
        replace H := Option.bind_eq_some_iff.mp H
        obtain ⟨t338, A60, H⟩ := H
        replace H : ((nat_Mul.f k1 (([t335, t338] : List (List Int)))).bind fun t344 => ((nat_Add.f k1 (([x7_1, t344] : List (List Int)))).bind fun t350 => (bounds_volume.l0 k1 a0 a1 a2 t350 (wrap64 (x8_1 + 1))))) = some r := H
        have A6 := Aside0.mk A60
        clear A60
        obtain ⟨y341, hy341⟩ : ∃ y_ : List (List Int), y_ = (([t335, t338] : List (List Int))) := ⟨_, rfl⟩
        replace H : ((nat_Mul.f k1 y341).bind fun t344 => ((nat_Add.f k1 (([x7_1, t344] : List (List Int)))).bind fun t350 => (bounds_volume.l0 k1 a0 a1 a2 t350 (wrap64 (x8_1 + 1))))) = some r := by first | (rw [hy341]; with_reducible exact H) | (have H2_ := (Option.bind_some _ _).symm.trans H; rw [hy341]; with_reducible exact H2_) | (have H2_ := (Option.bind_some _ _).symm.trans H; with_reducible exact H2_) | with_reducible exact H | (rw [hy341]; exact H) | exact H
        have Ny341 := Aside0.mk hy341
        clear hy341
        replace H := Option.bind_eq_some_iff.mp H
        obtain ⟨t344, A70, H⟩ := H
        replace H : ((nat_Add.f k1 (([x7_1, t344] : List (List Int)))).bind fun t350 => (bounds_volume.l0 k1 a0 a1 a2 t350 (wrap64 (x8_1 + 1)))) = some r := H
        have A7 := Aside0.mk A70
        clear A70
        obtain ⟨y347, hy347⟩ : ∃ y_ : List (List Int), y_ = (([x7_1, t344] : List (List Int))) := ⟨_, rfl⟩
        replace H : ((nat_Add.f k1 y347).bind fun t350 => (bounds_volume.l0 k1 a0 a1 a2 t350 (wrap64 (x8_1 + 1)))) = some r := by first | (rw [hy347]; with_reducible exact H) | (have H2_ := (Option.bind_some _ _).symm.trans H; rw [hy347]; with_reducible exact H2_) | (have H2_ := (Option.bind_some _ _).symm.trans H; with_reducible exact H2_) | with_reducible exact H | (rw [hy347]; exact H) | exact H
        have Ny347 := Aside0.mk hy347
        clear hy347
        replace H := Option.bind_eq_some_iff.mp H
        obtain ⟨t350, A80, H⟩ := H
        replace H : (bounds_volume.l0 k1 a0 a1 a2 t350 (wrap64 (x8_1 + 1))) = some r := H
        have A8 := Aside0.mk A80
        clear A80
        have H' := Aside0.mk H
        clear H
        go_wp2_with (first | ((with_reducible refine gate_callee (f := 41) rfl ?_); refine goesL_ (some 17) rfl rfl Try.func41 (by kernel_rfl) rfl #[.int .i64 a1, .int .i64 x8_1] rfl (by (try simp only [List.map_toArray, List.map_cons, List.map_nil]); first | done | rfl | (simp only [List.length_drop, List.length_take]; rfl)) ?_; (with_reducible refine (bounds_choose.calls k1 a1 x8_1 t335 _ A5.out).mono ?_); rintro e w9 ⟨v336, rfl, ho0, hb⟩; refine ⟨_, rfl, ?_⟩; have n0_ := Aside0.mk (Kd.R_elder' (by (with_reducible repeat (first | apply Kd.R_alloc | apply Kd.R_drewN | apply Kd.R_drew)); exact HO_7.out) (Kd.R_base ho0) hb); have n1_ := Aside0.mk (Kd.R_lower (Kd.R_new' ho0 (Kd.R_lt (by (with_reducible repeat (first | apply Kd.R_alloc | apply Kd.R_drewN | apply Kd.R_drew)); exact HO_7.out))) (below_size (by repeat (first | (with_reducible first | exact HB.out | apply below_alloc | apply pw_below_drewN | apply below_drew1) | exact HB.out)))); have n2_ := Aside0.mk (below_step (by repeat (first | (with_reducible first | exact HB.out | apply below_alloc | apply pw_below_drewN | apply below_drew1) | exact HB.out)) hb); clear HO_7; clear HB; have HO_7 := n0_; have HO337 := n1_; have HB := n2_; clear n0_ n1_ n2_; (try clear hb); (try clear hb2); (try clear hk); (try clear hi); (try clear ho0)) | ((with_reducible refine gate_callee (f := 26) rfl ?_); refine goesL_ (some 21) rfl rfl Try.func26 (by kernel_rfl) rfl #[.int .i64 (wrap64 (a0 - 1)), .int .i64 x8_1] rfl (by (try simp only [List.map_toArray, List.map_cons, List.map_nil]); first | done | rfl | (simp only [List.length_drop, List.length_take]; rfl)) ?_; (with_reducible refine (bounds_power.calls k1 (wrap64 (a0 - 1)) x8_1 t338 _ A6.out).mono ?_); rintro e w10 ⟨v339, rfl, ho0, hb⟩; refine ⟨_, rfl, ?_⟩; have n0_ := Aside0.mk (Kd.R_elder' (by (with_reducible repeat (first | apply Kd.R_alloc | apply Kd.R_drewN | apply Kd.R_drew)); exact HO_7.out) (Kd.R_base ho0) hb); have n1_ := Aside0.mk (Kd.R_elder' (by (with_reducible repeat (first | apply Kd.R_alloc | apply Kd.R_drewN | apply Kd.R_drew)); exact HO337.out) (Kd.R_base ho0) hb); have n2_ := Aside0.mk (Kd.R_lower (Kd.R_new' (Kd.R_new' ho0 (Kd.R_lt (by (with_reducible repeat (first | apply Kd.R_alloc | apply Kd.R_drewN | apply Kd.R_drew)); exact HO_7.out))) (Kd.R_lt (by (with_reducible repeat (first | apply Kd.R_alloc | apply Kd.R_drewN | apply Kd.R_drew)); exact HO337.out))) (below_size (by repeat (first | (with_reducible first | exact HB.out | apply below_alloc | apply pw_below_drewN | apply below_drew1) | exact HB.out)))); have n3_ := Aside0.mk (below_step (by repeat (first | (with_reducible first | exact HB.out | apply below_alloc | apply pw_below_drewN | apply below_drew1) | exact HB.out)) hb); clear HO_7; clear HO337; clear HB; have HO_7 := n0_; have HO337 := n1_; have HO340 := n2_; have HB := n3_; clear n0_ n1_ n2_ n3_; (try clear hb); (try clear hb2); (try clear hk); (try clear hi); (try clear ho0); obtain ⟨Ao11, co11, eo11⟩ := Kd.R_slice HO337.out; subst eo11; obtain ⟨Ao12, co12, eo12⟩ := Kd.R_slice HO340.out; subst eo12) | ((with_reducible refine gate_dst (N := 22) rfl ?_); refine Kd.N_lit (Kd.slice 41 (Kd.int .u32)) _ 23 ?hg (N' := 22) ?hd (xs := ([t335, t338] : List (List Int))) (inner := [.slice Ao11 t335.length co11, .slice Ao12 t338.length co12]) (ok := (fun k_ => some k_ ≠ (u7 : Value).ownBlock)) (okp := (fun k_ => some k_ ≠ (u7 : Value).ownBlock)) ?hr ?hp (fun _ hk => hk) ((show ∀ k_, w10.heap.size ≤ k_ → (fun k_ => some k_ ≠ (u7 : Value).ownBlock) k_ from fun k_ hk => Kd.fresh' (Kd.R_lt (by (with_reducible repeat (first | apply Kd.R_alloc | apply Kd.R_drewN | apply Kd.R_drew)); exact HO_7.out)) k_ hk) _ (Nat.le_refl _)) (Below.refl _ _) (Nat.le_refl _) (by simp) ?_; (case hd => rfl); (case hg => rfl); (case hr => first | (go_simp; done) | (go_simp; rfl)); (case hp => exact (Reps.one (show Kd.FK (Kd.slice 41 (Kd.int .u32)) _ _ t335 [.slice Ao11 t335.length co11] from (Kd.FK_slice_mk (Kd.R_reads' (Kd.R_mono (ok' := (fun k_ => some k_ ≠ (u7 : Value).ownBlock)) (HO337.out) (fun k_ hk => hk.1.2))).2.1 (Kd.R_F (Kd.R_mono (ok' := (fun k_ => some k_ ≠ (u7 : Value).ownBlock)) (HO337.out) (fun k_ hk => hk.1.2))))) (Reps.one (show Kd.FK (Kd.slice 41 (Kd.int .u32)) _ _ t338 [.slice Ao12 t338.length co12] from (Kd.FK_slice_mk (Kd.R_reads' (Kd.R_mono (ok' := (fun k_ => some k_ ≠ (u7 : Value).ownBlock)) (HO340.out) (fun k_ hk => hk.1.2))).2.1 (Kd.R_F (Kd.R_mono (ok' := (fun k_ => some k_ ≠ (u7 : Value).ownBlock)) (HO340.out) (fun k_ hk => hk.1.2))))) (Reps.none _ _)))); intro v342 w13 ho14 hb hg_ hnew_; clear hg_ hnew_; (first | rw [← Ny341.out] at ho14 | (simp only [Int.reduceToNat] at ho14; rw [← Ny341.out] at ho14)); have n0_ := Aside0.mk (Kd.R_below (by (with_reducible repeat (first | apply Kd.R_alloc | apply Kd.R_drewN | apply Kd.R_drew)); exact HO_7.out) hb); have n1_ := Aside0.mk (Kd.N_lower ho14 (below_size (by repeat (first | (with_reducible first | exact HB.out | apply below_alloc | apply pw_below_drewN | apply below_drew1) | exact HB.out)))); have n2_ := Aside0.mk (below_step (by repeat (first | (with_reducible first | exact HB.out | apply below_alloc | apply pw_below_drewN | apply below_drew1) | exact HB.out)) hb); clear HO_7; clear HB; clear HO337; clear HO340; have HO_7 := n0_; have HO343 := n1_; have HB := n2_; clear n0_ n1_ n2_; clear hb ho14; obtain ⟨Ao15, co15, eo15⟩ := Kd.N_slice HO343.out; subst eo15) | ((with_reducible refine gate_callee (f := 31) rfl ?_); refine goesL_ (some 23) rfl rfl Try.func31 (by kernel_rfl) rfl #[.slice Ao15 y341.length co15] rfl (by (try simp only [List.map_toArray, List.map_cons, List.map_nil]); first | done | rfl | (simp only [List.length_drop, List.length_take]; rfl)) ?_; (with_reducible refine (nat_Mul.calls k1 _ _ y341 t344 _ ?side1 ?side2 A7.out).mono ?_); (case side1 => repeat (first | exact (Kd.N_reads' HO343.out).2.2 | (with_reducible refine Kd.C_alloc ?_ _) | (with_reducible refine Kd.C_drewN ?_ _) | (with_reducible refine Kd.C_drew ?_))); (case side2 => exact (Kd.N_reads' HO343.out).2.1); rintro e w16 ⟨v345, rfl, ho0, hb⟩; refine ⟨_, rfl, ?_⟩; have n0_ := Aside0.mk (Kd.R_elder' (by (with_reducible repeat (first | apply Kd.R_alloc | apply Kd.R_drewN | apply Kd.R_drew)); exact HO_7.out) (Kd.R_base ho0) hb); have n1_ := Aside0.mk (Kd.N_elder' (by (with_reducible repeat (first | apply Kd.N_alloc | apply Kd.N_drewN | apply Kd.N_drew)); exact HO343.out) (Kd.R_base ho0) hb); have n2_ := Aside0.mk (Kd.R_lower (Kd.R_new' ho0 (Kd.R_lt (by (with_reducible repeat (first | apply Kd.R_alloc | apply Kd.R_drewN | apply Kd.R_drew)); exact HO_7.out))) (below_size (by repeat (first | (with_reducible first | exact HB.out | apply below_alloc | apply pw_below_drewN | apply below_drew1) | exact HB.out)))); have n3_ := Aside0.mk (below_step (by repeat (first | (with_reducible first | exact HB.out | apply below_alloc | apply pw_below_drewN | apply below_drew1) | exact HB.out)) hb); clear HO_7; clear HO343; clear HB; have HO_7 := n0_; have HO343 := n1_; have HO346 := n2_; have HB := n3_; clear n0_ n1_ n2_ n3_; (try clear hb); (try clear hb2); (try clear hk); (try clear hi); (try clear ho0); obtain ⟨Ao17, co17, eo17⟩ := Kd.R_slice HO_7.out; subst eo17; obtain ⟨Ao18, co18, eo18⟩ := Kd.R_slice HO346.out; subst eo18) | ((with_reducible refine gate_dst (N := 24) rfl ?_); refine Kd.N_lit (Kd.slice 41 (Kd.int .u32)) _ 23 ?hg (N' := 24) ?hd (xs := ([x7_1, t344] : List (List Int))) (inner := [.slice Ao17 x7_1.length co17, .slice Ao18 t344.length co18]) (ok := (fun k_ => some k_ ≠ (.slice Ao15 y341.length co15 : Value).ownBlock)) (okp := (fun k_ => some k_ ≠ (.slice Ao15 y341.length co15 : Value).ownBlock)) ?hr ?hp (fun _ hk => hk) ((show ∀ k_, w16.heap.size ≤ k_ → (fun k_ => some k_ ≠ (.slice Ao15 y341.length co15 : Value).ownBlock) k_ from fun k_ hk => Kd.fresh' (Kd.N_lt (by (with_reducible repeat (first | apply Kd.N_alloc | apply Kd.N_drewN | apply Kd.N_drew)); exact HO343.out)) k_ hk) _ (Nat.le_refl _)) (Below.refl _ _) (Nat.le_refl _) (by simp) ?_; (case hd => rfl); (case hg => rfl); (case hr => first | (go_simp; done) | (go_simp; rfl)); (case hp => exact (Reps.one (show Kd.FK (Kd.slice 41 (Kd.int .u32)) _ _ x7_1 [.slice Ao17 x7_1.length co17] from (Kd.FK_slice_mk (Kd.R_reads' (Kd.R_mono (ok' := (fun k_ => some k_ ≠ (.slice Ao15 y341.length co15 : Value).ownBlock)) (Kd.R_apart' (HO_7.out) (Kd.N_typed HO343.out) (by decide)) (fun k_ hk => hk.2))).2.1 (Kd.R_F (Kd.R_mono (ok' := (fun k_ => some k_ ≠ (.slice Ao15 y341.length co15 : Value).ownBlock)) (Kd.R_apart' (HO_7.out) (Kd.N_typed HO343.out) (by decide)) (fun k_ hk => hk.2))))) (Reps.one (show Kd.FK (Kd.slice 41 (Kd.int .u32)) _ _ t344 [.slice Ao18 t344.length co18] from (Kd.FK_slice_mk (Kd.R_reads' (Kd.R_mono (ok' := (fun k_ => some k_ ≠ (.slice Ao15 y341.length co15 : Value).ownBlock)) (Kd.R_apart' (HO346.out) (Kd.N_typed HO343.out) (by decide)) (fun k_ hk => hk.2))).2.1 (Kd.R_F (Kd.R_mono (ok' := (fun k_ => some k_ ≠ (.slice Ao15 y341.length co15 : Value).ownBlock)) (Kd.R_apart' (HO346.out) (Kd.N_typed HO343.out) (by decide)) (fun k_ hk => hk.2))))) (Reps.none _ _)))); intro v348 w19 ho20 hb hg_ hnew_; clear hg_ hnew_; (first | rw [← Ny347.out] at ho20 | (simp only [Int.reduceToNat] at ho20; rw [← Ny347.out] at ho20)); have n0_ := Aside0.mk (Kd.N_elder' (by (with_reducible repeat (first | apply Kd.N_alloc | apply Kd.N_drewN | apply Kd.N_drew)); exact HO343.out) (Kd.N_base ho20) hb); have n1_ := Aside0.mk (Kd.N_lower ho20 (below_size (by repeat (first | (with_reducible first | exact HB.out | apply below_alloc | apply pw_below_drewN | apply below_drew1) | exact HB.out)))); have n2_ := Aside0.mk (below_step (by repeat (first | (with_reducible first | exact HB.out | apply below_alloc | apply pw_below_drewN | apply below_drew1) | exact HB.out)) hb); clear HO343; clear HB; clear HO346; clear HO_7; have HO343 := n0_; have HO349 := n1_; have HB := n2_; clear n0_ n1_ n2_; clear hb ho20; obtain ⟨Ao21, co21, eo21⟩ := Kd.N_slice HO349.out; subst eo21) | ((with_reducible refine gate_callee (f := 42) rfl ?_); refine goesL_ (some 25) rfl rfl Try.func42 (by kernel_rfl) rfl #[.slice Ao21 y347.length co21] rfl (by (try simp only [List.map_toArray, List.map_cons, List.map_nil]); first | done | rfl | (simp only [List.length_drop, List.length_take]; rfl)) ?_; (with_reducible refine (nat_Add.calls k1 _ _ y347 t350 _ ?side1 ?side2 A8.out).mono ?_); (case side1 => repeat (first | exact (Kd.N_reads' HO349.out).2.2 | (with_reducible refine Kd.C_alloc ?_ _) | (with_reducible refine Kd.C_drewN ?_ _) | (with_reducible refine Kd.C_drew ?_))); (case side2 => exact (Kd.N_reads' HO349.out).2.1); rintro e w22 ⟨v351, rfl, ho0, hb⟩; refine ⟨_, rfl, ?_⟩; have n0_ := Aside0.mk (Kd.N_elder' (by (with_reducible repeat (first | apply Kd.N_alloc | apply Kd.N_drewN | apply Kd.N_drew)); exact HO343.out) (Kd.R_base ho0) hb); have n1_ := Aside0.mk (Kd.N_elder' (by (with_reducible repeat (first | apply Kd.N_alloc | apply Kd.N_drewN | apply Kd.N_drew)); exact HO349.out) (Kd.R_base ho0) hb); have n2_ := Aside0.mk (Kd.R_lower ho0 (below_size (by repeat (first | (with_reducible first | exact HB.out | apply below_alloc | apply pw_below_drewN | apply below_drew1) | exact HB.out)))); have n3_ := Aside0.mk (below_step (by repeat (first | (with_reducible first | exact HB.out | apply below_alloc | apply pw_below_drewN | apply below_drew1) | exact HB.out)) hb); clear HO343; clear HO349; clear HB; have HO343 := n0_; have HO349 := n1_; have HO352 := n2_; have HB := n3_; clear n0_ n1_ n2_ n3_; (try clear hb); (try clear hb2); (try clear hk); (try clear hi); (try clear ho0)))
        go_roundg k1
        case measure => have := HK1.out; omega
        case rel => exact ⟨(t350), (wrap64 (x8_1 + 1)), (by first | rfl | (simp; done) | (simp [*]; done)), H', ⟨by have := HK1.out; omega⟩, ⟨by (with_reducible repeat (first | apply Kd.R_alloc | apply Kd.R_drewN | apply Kd.R_drew)); exact HO352.out⟩, ⟨by repeat (first | (with_reducible first | exact HB.out | apply below_alloc | apply pw_below_drewN | apply below_drew1) | exact HB.out)⟩⟩
      · rw [if_neg c4] at H
        have c4b0 : decide (x8_1 ≤ a2) = false := decide_eq_false c4
        clear c4
        obtain rfl := Option.some.inj H
        go_wp2
        go_ret
        exact ⟨_, by first | rfl | (simp [errW_none, errW_some] <;> rfl) | (simp [*, errW_none, errW_some] <;> rfl), by (with_reducible repeat (first | apply Kd.R_alloc | apply Kd.R_drewN | apply Kd.R_drew)); exact HO_7.out, by repeat (first | (with_reducible first | exact HB.out | apply below_alloc | apply pw_below_drewN | apply below_drew1) | exact HB.out)⟩
/-! ### bounds_Hamming: function 7 -/
def bounds_Hamming.f (k : Nat) (a0 : Int) (a1 : Int) (a2 : Int) : Option (List Int × Int) := (bounds_out.f a0 a1 a2).bind fun t353 => (if t353 = true then (some (([] : List Int), 6)) else ((bounds_power.f k a0 a1).bind fun t354 => ((bounds_volume.f k a0 a1 (wrap64 (Int.tdiv (wrap64 (a2 - 1)) 2))).bind fun t357 => ((bounds_over.f k t354 t357).bind fun t360 => (some (t360, 0))))))
set_option maxHeartbeats 8000000 in
set_option maxRecDepth 100000 in
theorem bounds_Hamming.calls (k : Nat) (a0 : Int) (a1 : Int) (a2 : Int) (r1 : List Int) (r2 : Int) (w : World) (h : bounds_Hamming.f k a0 a1 a2 = some (r1, r2)) :
    Calls Try.prog 7 #[.int .i64 a0, .int .i64 a1, .int .i64 a2] w fun e w' => ∃ v0_ : Value, e = .returned (.tuple #[v0_, .int .i64 r2]) ∧ Kd.V (Kd.int .u32) 41 w' w.heap.size (fun k_ => (w.heap.size ≤ k_)) v0_ r1 ∧ Below w.heap.size w w' := by
  have HB := Aside0.mk (Below.refl w.heap.size w)
  have H : ((bounds_out.f a0 a1 a2).bind fun t353 => (if t353 = true then (some (([] : List Int), 6)) else ((bounds_power.f k a0 a1).bind fun t354 => ((bounds_volume.f k a0 a1 (wrap64 (Int.tdiv (wrap64 (a2 - 1)) 2))).bind fun t357 => ((bounds_over.f k t354 t357).bind fun t360 => (some (t360, 0))))))) = some (r1, r2) := h
  clear h
  replace H := Option.bind_eq_some_iff.mp H
  obtain ⟨t353, A40, H⟩ := H
  replace H : (if t353 = true then (some (([] : List Int), 6)) else ((bounds_power.f k a0 a1).bind fun t354 => ((bounds_volume.f k a0 a1 (wrap64 (Int.tdiv (wrap64 (a2 - 1)) 2))).bind fun t357 => ((bounds_over.f k t354 t357).bind fun t360 => (some (t360, 0)))))) = some (r1, r2) := H
  have A4 := Aside0.mk A40
  clear A40
  by_cases c5 : t353 = true
  · subst c5
    have H1 : (some (([] : List Int), 6)) = some (r1, r2) := by rw [if_pos rfl] at H; exact H
    clear H
    have H := H1
    clear H1
    simp only [Option.some.injEq, Prod.mk.injEq] at H
    obtain ⟨rfl, rfl⟩ := H
    go_enter Try.func7, Try.ntmps7
    go_wp2_with (first | ((with_reducible refine gate_callee (f := 24) rfl ?_); refine goesL_ (some 11) rfl rfl Try.func24 (by kernel_rfl) rfl #[.int .i64 a0, .int .i64 a1, .int .i64 a2] rfl (by (try simp only [List.map_toArray, List.map_cons, List.map_nil]); first | done | rfl | (simp only [List.length_drop, List.length_take]; rfl)) ?_; (with_reducible refine (bounds_out.calls a0 a1 a2 true _ A4.out).mono ?_); rintro e w' ⟨rfl, ⟨nd, rfl⟩⟩; refine ⟨_, rfl, ?_⟩))
    go_ret2
    exact ⟨_, by first | rfl | (simp [errW_none, errW_some] <;> rfl) | (simp [*, errW_none, errW_some] <;> rfl), Kd.R_V (base := 0) (by first | exact Kd.R_nil _ _ _ _ _ | exact Kd.N_nil _ _ _ _ _ | exact Kd.V_nil _ _ _ _ _ | exact Kd.Q_nil _ _ _ _ _ | exact Kd.S_nil _ _ _ _ _), by repeat (first | (with_reducible first | exact HB.out | apply below_alloc | apply pw_below_drewN | apply below_drew1) | exact HB.out)⟩
  · replace c5 := Bool.eq_false_iff.mpr c5
    subst c5
    have H1 : ((bounds_power.f k a0 a1).bind fun t354 => ((bounds_volume.f k a0 a1 (wrap64 (Int.tdiv (wrap64 (a2 - 1)) 2))).bind fun t357 => ((bounds_over.f k t354 t357).bind fun t360 => (some (t360, 0))))) = some (r1, r2) := by rw [if_neg (show ¬ (false = true) by decide)] at H; exact H
    clear H
    have H := H1
    clear H1
    replace H := Option.bind_eq_some_iff.mp H
    obtain ⟨t354, A60, H⟩ := H
    replace H : ((bounds_volume.f k a0 a1 (wrap64 (Int.tdiv (wrap64 (a2 - 1)) 2))).bind fun t357 => ((bounds_over.f k t354 t357).bind fun t360 => (some (t360, 0)))) = some (r1, r2) := H
    have A6 := Aside0.mk A60
    clear A60
    replace H := Option.bind_eq_some_iff.mp H
    obtain ⟨t357, A70, H⟩ := H
    replace H : ((bounds_over.f k t354 t357).bind fun t360 => (some (t360, 0))) = some (r1, r2) := H
    have A7 := Aside0.mk A70
    clear A70
    replace H := Option.bind_eq_some_iff.mp H
    obtain ⟨t360, A80, H⟩ := H
    replace H : (some (t360, 0)) = some (r1, r2) := H
    have A8 := Aside0.mk A80
    clear A80
    simp only [Option.some.injEq, Prod.mk.injEq] at H
    obtain ⟨rfl, rfl⟩ := H
    go_enter Try.func7, Try.ntmps7
    go_wp2_with (first | ((with_reducible refine gate_callee (f := 24) rfl ?_); refine goesL_ (some 11) rfl rfl Try.func24 (by kernel_rfl) rfl #[.int .i64 a0, .int .i64 a1, .int .i64 a2] rfl (by (try simp only [List.map_toArray, List.map_cons, List.map_nil]); first | done | rfl | (simp only [List.length_drop, List.length_take]; rfl)) ?_; (with_reducible refine (bounds_out.calls a0 a1 a2 false _ A4.out).mono ?_); rintro e w' ⟨rfl, ⟨nd, rfl⟩⟩; refine ⟨_, rfl, ?_⟩) | ((with_reducible refine gate_callee (f := 26) rfl ?_); refine goesL_ (some 14) rfl rfl Try.func26 (by kernel_rfl) rfl #[.int .i64 a0, .int .i64 a1] rfl (by (try simp only [List.map_toArray, List.map_cons, List.map_nil]); first | done | rfl | (simp only [List.length_drop, List.length_take]; rfl)) ?_; (with_reducible refine (bounds_power.calls k a0 a1 t354 _ A6.out).mono ?_); rintro e w9 ⟨v355, rfl, ho0, hb⟩; refine ⟨_, rfl, ?_⟩; have n0_ := Aside0.mk (Kd.R_lower (Kd.R_newM (M := fun k_ => (w.heap.size ≤ k_)) ho0 (below_size (by repeat (first | (with_reducible first | exact HB.out | apply below_alloc | apply pw_below_drewN | apply below_drew1) | exact HB.out))) (fun k_ h_ => h_)) (below_size (by repeat (first | (with_reducible first | exact HB.out | apply below_alloc | apply pw_below_drewN | apply below_drew1) | exact HB.out)))); have n1_ := Aside0.mk (below_step (by repeat (first | (with_reducible first | exact HB.out | apply below_alloc | apply pw_below_drewN | apply below_drew1) | exact HB.out)) hb); clear HB; have HO356 := n0_; have HB := n1_; clear n0_ n1_; (try clear hb); (try clear hb2); (try clear hk); (try clear hi); (try clear ho0)) | ((with_reducible refine gate_callee (f := 27) rfl ?_); refine goesL_ (some 20) rfl rfl Try.func27 (by kernel_rfl) rfl #[.int .i64 a0, .int .i64 a1, .int .i64 (wrap64 (Int.tdiv (wrap64 (a2 - 1)) 2))] rfl (by (try simp only [List.map_toArray, List.map_cons, List.map_nil]); first | done | rfl | (simp only [List.length_drop, List.length_take]; rfl)) ?_; (with_reducible refine (bounds_volume.calls k a0 a1 (wrap64 (Int.tdiv (wrap64 (a2 - 1)) 2)) t357 _ A7.out).mono ?_); rintro e w10 ⟨v358, rfl, ho0, hb⟩; refine ⟨_, rfl, ?_⟩; have n0_ := Aside0.mk (Kd.R_elder' (by (with_reducible repeat (first | apply Kd.R_alloc | apply Kd.R_drewN | apply Kd.R_drew)); exact HO356.out) (Kd.R_base ho0) hb); have n1_ := Aside0.mk (Kd.R_lower (Kd.R_new' (Kd.R_newM (M := fun k_ => (w.heap.size ≤ k_)) ho0 (below_size (by repeat (first | (with_reducible first | exact HB.out | apply below_alloc | apply pw_below_drewN | apply below_drew1) | exact HB.out))) (fun k_ h_ => h_)) (Kd.R_lt (by (with_reducible repeat (first | apply Kd.R_alloc | apply Kd.R_drewN | apply Kd.R_drew)); exact HO356.out))) (below_size (by repeat (first | (with_reducible first | exact HB.out | apply below_alloc | apply pw_below_drewN | apply below_drew1) | exact HB.out)))); have n2_ := Aside0.mk (below_step (by repeat (first | (with_reducible first | exact HB.out | apply below_alloc | apply pw_below_drewN | apply below_drew1) | exact HB.out)) hb); clear HO356; clear HB; have HO356 := n0_; have HO359 := n1_; have HB := n2_; clear n0_ n1_ n2_; (try clear hb); (try clear hb2); (try clear hk); (try clear hi); (try clear ho0); obtain ⟨Ao11, co11, eo11⟩ := Kd.R_slice HO356.out; subst eo11; obtain ⟨Ao12, co12, eo12⟩ := Kd.R_slice HO359.out; subst eo12) | ((with_reducible refine gate_callee (f := 25) rfl ?_); refine goesL_ (some 21) rfl rfl Try.func25 (by kernel_rfl) rfl #[.slice Ao11 t354.length co11, .slice Ao12 t357.length co12] rfl (by (try simp only [List.map_toArray, List.map_cons, List.map_nil]); first | done | rfl | (simp only [List.length_drop, List.length_take]; rfl)) ?_; (with_reducible refine (bounds_over.calls k (fun k_ => some k_ = (.slice Ao11 t354.length co11 : Value).ownBlock) _ _ t354 (fun k_ => some k_ = (.slice Ao12 t357.length co12 : Value).ownBlock) _ _ t357 t360 _ ?side1 ?side2 A8.out).mono ?_); (case side1 => exact Kd.R_V (Kd.R_tight rfl (HO356.out))); (case side2 => exact Kd.R_V (Kd.R_tight rfl (HO359.out))); rintro e w13 ⟨v361, rfl, ho0, hb⟩; refine ⟨_, rfl, ?_⟩; have n0_ := Aside0.mk (Kd.R_below (by (with_reducible repeat (first | apply Kd.R_alloc | apply Kd.R_drewN | apply Kd.R_drew)); exact HO356.out) hb); have n1_ := Aside0.mk (Kd.R_below (by (with_reducible repeat (first | apply Kd.R_alloc | apply Kd.R_drewN | apply Kd.R_drew)); exact HO359.out) hb); have n2_ := Aside0.mk (Kd.V_lower (Kd.V_mono (ok' := fun k_ => (w.heap.size ≤ k_)) ho0 (fun k_ hk_ => Or.elim hk_ (fun hs_ => Or.elim hs_ (fun hs_ => ((HO356.out).1 k_ hs_.symm).1.1) (fun hs_ => ((HO359.out).1 k_ hs_.symm).1.1)) (fun hn_ => (Nat.le_trans (below_size (by repeat (first | (with_reducible first | exact HB.out | apply below_alloc | apply pw_below_drewN | apply below_drew1) | exact HB.out))) hn_)))) (below_size (by repeat (first | (with_reducible first | exact HB.out | apply below_alloc | apply pw_below_drewN | apply below_drew1) | exact HB.out)))); have n3_ := Aside0.mk (below_step (by repeat (first | (with_reducible first | exact HB.out | apply below_alloc | apply pw_below_drewN | apply below_drew1) | exact HB.out)) hb); clear HO356; clear HO359; clear HB; have HO356 := n0_; have HO359 := n1_; have HO362 := n2_; have HB := n3_; clear n0_ n1_ n2_ n3_; (try clear hb); (try clear hb2); (try clear hk); (try clear hi); (try clear ho0)))
    go_ret2
    exact ⟨_, by first | rfl | (simp [errW_none, errW_some] <;> rfl) | (simp [*, errW_none, errW_some] <;> rfl), by (with_reducible repeat (first | apply Kd.V_alloc | apply Kd.V_drewN | apply Kd.V_drew)); exact HO362.out, by repeat (first | (with_reducible first | exact HB.out | apply below_alloc | apply pw_below_drewN | apply below_drew1) | exact HB.out)⟩
/-! ### codewrightref34_Range: function 12 -/
def codewrightref34_Range.f (a0 : Int) (a1 : Int) (a2 : Int) : Option (Bool) := if a0 ≥ 2 then (if a0 ≤ 256 then (if a1 ≥ 1 then (if a1 ≤ 64 then (if a2 ≥ 1 then (some (decide (a2 ≤ a1))) else (some false)) else (some false)) else (some false)) else (some false)) else (some false)
set_option maxHeartbeats 8000000 in
set_option maxRecDepth 100000 in
theorem codewrightref34_Range.calls (a0 : Int) (a1 : Int) (a2 : Int) (r : Bool) (w : World) (h : codewrightref34_Range.f a0 a1 a2 = some r) :
    Calls Try.prog 12 #[.int .i64 a0, .int .i64 a1, .int .i64 a2] w fun e w' => e = .returned (.bool r) ∧ Drawn0 w w' := by
  have H : (if a0 ≥ 2 then (if a0 ≤ 256 then (if a1 ≥ 1 then (if a1 ≤ 64 then (if a2 ≥ 1 then (some (decide (a2 ≤ a1))) else (some false)) else (some false)) else (some false)) else (some false)) else (some false)) = some r := h
  clear h
  by_cases c4 : a0 ≥ 2
  · rw [if_pos c4] at H
    have c4b0 : decide (2 ≤ a0) = true := decide_eq_true c4
    clear c4
    by_cases c5 : a0 ≤ 256
    · rw [if_pos c5] at H
      have c5b0 : decide (a0 ≤ 256) = true := decide_eq_true c5
      clear c5
      by_cases c6 : a1 ≥ 1
      · rw [if_pos c6] at H
        have c6b0 : decide (1 ≤ a1) = true := decide_eq_true c6
        clear c6
        by_cases c7 : a1 ≤ 64
        · rw [if_pos c7] at H
          have c7b0 : decide (a1 ≤ 64) = true := decide_eq_true c7
          clear c7
          by_cases c8 : a2 ≥ 1
          · rw [if_pos c8] at H
            have c8b0 : decide (1 ≤ a2) = true := decide_eq_true c8
            clear c8
            obtain rfl := Option.some.inj H
            go_enter Try.func12, Try.ntmps12
            go_wp2
            go_ret
            exact ⟨by first | rfl | (simp; done) | (simp [*]; done), by repeat (first | exact Drawn0.refl _ | apply Drawn0.step)⟩
          · rw [if_neg c8] at H
            have c8b0 : decide (1 ≤ a2) = false := decide_eq_false c8
            clear c8
            obtain rfl := Option.some.inj H
            go_enter Try.func12, Try.ntmps12
            go_wp2
            go_ret
            exact ⟨by first | rfl | (simp; done) | (simp [*]; done), by repeat (first | exact Drawn0.refl _ | apply Drawn0.step)⟩
        · rw [if_neg c7] at H
          have c7b0 : decide (a1 ≤ 64) = false := decide_eq_false c7
          clear c7
          obtain rfl := Option.some.inj H
          go_enter Try.func12, Try.ntmps12
          go_wp2
          go_ret
          exact ⟨by first | rfl | (simp; done) | (simp [*]; done), by repeat (first | exact Drawn0.refl _ | apply Drawn0.step)⟩
      · rw [if_neg c6] at H
        have c6b0 : decide (1 ≤ a1) = false := decide_eq_false c6
        clear c6
        obtain rfl := Option.some.inj H
        go_enter Try.func12, Try.ntmps12
        go_wp2
        go_ret
        exact ⟨by first | rfl | (simp; done) | (simp [*]; done), by repeat (first | exact Drawn0.refl _ | apply Drawn0.step)⟩
    · rw [if_neg c5] at H
      have c5b0 : decide (a0 ≤ 256) = false := decide_eq_false c5
      clear c5
      obtain rfl := Option.some.inj H
      go_enter Try.func12, Try.ntmps12
      go_wp2
      go_ret
      exact ⟨by first | rfl | (simp; done) | (simp [*]; done), by repeat (first | exact Drawn0.refl _ | apply Drawn0.step)⟩
  · rw [if_neg c4] at H
    have c4b0 : decide (2 ≤ a0) = false := decide_eq_false c4
    clear c4
    obtain rfl := Option.some.inj H
    go_enter Try.func12, Try.ntmps12
    go_wp2
    go_ret
    exact ⟨by first | rfl | (simp; done) | (simp [*]; done), by repeat (first | exact Drawn0.refl _ | apply Drawn0.step)⟩
/-! ### codewrightref01_Same: function 10 -/
def codewrightref01_Same.l0 : Nat → List Int → List Int → Int → Option (Bool)
  | 0, _, _, _ => none
  | k + 1, x0, x1, x5 => if x5 < (x0.length : Int) then (if 0 ≤ x5 then (if x5 < (x1.length : Int) then (if (rd x0 x5) = (rd x1 x5) then (codewrightref01_Same.l0 k x0 x1 (wrap64 (x5 + 1))) else (some false)) else (none)) else (none)) else (some true)
def codewrightref01_Same.f (k : Nat) (l0 : List Int) (l1 : List Int) : Option (Bool) := if (l0.length : Int) = (l1.length : Int) then (codewrightref01_Same.l0 k l0 l1 0) else (some false)
set_option maxHeartbeats 8000000 in
set_option maxRecDepth 100000 in
theorem codewrightref01_Same.calls (k : Nat) (A0 : Option Addr) (c0 : Nat) (l0 : List Int) (A1 : Option Addr) (c1 : Nat) (l1 : List Int) (r : Bool) (w : World) (hr0 : Kd.C (Kd.int .u32) w A0 l0.length l0) (hc0 : l0.length ≤ c0) (hr1 : Kd.C (Kd.int .u32) w A1 l1.length l1) (hc1 : l1.length ≤ c1) (h : codewrightref01_Same.f k l0 l1 = some r) :
    Calls Try.prog 10 #[.slice A0 l0.length c0, .slice A1 l1.length c1] w fun e w' => e = .returned (.bool r) ∧ Drawn0 w w' := by
  have HR0 := Aside0.mk hr0
  have HC0 := Aside0.mk hc0
  clear hr0 hc0
  have HR1 := Aside0.mk hr1
  have HC1 := Aside0.mk hc1
  clear hr1 hc1
  have H : (if (l0.length : Int) = (l1.length : Int) then (codewrightref01_Same.l0 k l0 l1 0) else (some false)) = some r := h
  clear h
  by_cases c3 : (l0.length : Int) = (l1.length : Int)
  · rw [if_pos c3] at H
    have c3b0 : ((l0.length : Int) == (l1.length : Int)) = true := beq_iff_eq.mpr c3
    have c3b1 : ((l0.length : Int) != (l1.length : Int)) = false := bne_eq_false_iff_eq.mpr c3
    have c3b2 : (l0.length == l1.length) = true := by first | simpa using c3 | (simp at c3 ⊢; omega)
    clear c3
    have H' := Aside0.mk H
    clear H
    go_enter Try.func10, Try.ntmps10
    go_wp2
    repeat (go_quiet (fail); try go_wp2)
    go_loopg [5] k (fun kq v5 w' => ∃ (x5_1 : Int), v5 = .int .i64 x5_1 ∧ Aside0 (codewrightref01_Same.l0 kq l0 l1 x5_1 = some r) ∧ Aside0 (kq ≤ k) ∧ Drawn0 w w')
    case atStart => exact ⟨(0), (by first | rfl | (simp; done) | (simp [*]; done)), H', ⟨Nat.le_refl _⟩, by repeat (first | exact Drawn0.refl _ | apply Drawn0.step)⟩
    case round =>
      clear H'
      try clear c1
      try clear p2
      try clear c3
      try clear c3b0
      try clear c3b1
      try clear c3b2
      obtain ⟨x5_1, rfl, HA, HK1, ⟨m1, rfl⟩⟩ := hrel
      cases gk with
      | zero => exact absurd HA.out (by simp [codewrightref01_Same.l0])
      | succ k1 =>
        have H := HA.out
        clear HA
        simp only [codewrightref01_Same.l0] at H
        by_cases c4 : x5_1 < (l0.length : Int)
        · rw [if_pos c4] at H
          have c4b0 : decide (x5_1 < (l0.length : Int)) = true := decide_eq_true c4
          clear c4
          by_cases c5 : 0 ≤ x5_1
          · rw [if_pos c5] at H
            have c5b0 : decide (0 ≤ x5_1) = true := decide_eq_true c5
            clear c5
            by_cases c6 : x5_1 < (l1.length : Int)
            · rw [if_pos c6] at H
              have c6b0 : decide (x5_1 < (l1.length : Int)) = true := decide_eq_true c6
              clear c6
              by_cases c7 : (rd l0 x5_1) = (rd l1 x5_1)
              · rw [if_pos c7] at H
                have c7b0 : ((rd l0 x5_1) == (rd l1 x5_1)) = true := beq_iff_eq.mpr c7
                have c7b1 : ((rd l0 x5_1) != (rd l1 x5_1)) = false := bne_eq_false_iff_eq.mpr c7
                clear c7
                have H' := Aside0.mk H
                clear H
                have p363 : 0 ≤ (x5_1 : Int) := of_decide_eq_true (by first | (with_reducible assumption) | assumption)
                have q363 : x5_1 < (l0.length : Int) := of_decide_eq_true (by first | (with_reducible assumption) | assumption)
                obtain ⟨ad363, e363, hx363_0⟩ := Kd.at_int HR0.out x5_1 p363 q363
                cases e363
                replace p363 := eq_true p363
                replace q363 := eq_true q363
                have p364 : 0 ≤ (x5_1 : Int) := of_decide_eq_true (by first | (with_reducible assumption) | assumption)
                have q364 : x5_1 < (l1.length : Int) := of_decide_eq_true (by first | (with_reducible assumption) | assumption)
                obtain ⟨ad364, e364, hx364_0⟩ := Kd.at_int HR1.out x5_1 p364 q364
                cases e364
                replace p364 := eq_true p364
                replace q364 := eq_true q364
                go_wp2
                repeat (go_quiet (fail); try go_wp2)
                go_roundg k1
                case measure => have := HK1.out; omega
                case rel => exact ⟨(wrap64 (x5_1 + 1)), (by first | rfl | (simp; done) | (simp [*]; done)), H', ⟨by have := HK1.out; omega⟩, by repeat (first | exact Drawn0.refl _ | apply Drawn0.step)⟩
              · rw [if_neg c7] at H
                have c7b0 : ((rd l0 x5_1) == (rd l1 x5_1)) = false := beq_eq_false_iff_ne.mpr c7
                have c7b1 : ((rd l0 x5_1) != (rd l1 x5_1)) = true := bne_iff_ne.mpr c7
                obtain rfl := Option.some.inj H
                have p363 : 0 ≤ (x5_1 : Int) := of_decide_eq_true (by first | (with_reducible assumption) | assumption)
                have q363 : x5_1 < (l0.length : Int) := of_decide_eq_true (by first | (with_reducible assumption) | assumption)
                obtain ⟨ad363, e363, hx363_0⟩ := Kd.at_int HR0.out x5_1 p363 q363
                cases e363
                replace p363 := eq_true p363
                replace q363 := eq_true q363
                have p364 : 0 ≤ (x5_1 : Int) := of_decide_eq_true (by first | (with_reducible assumption) | assumption)
                have q364 : x5_1 < (l1.length : Int) := of_decide_eq_true (by first | (with_reducible assumption) | assumption)
                obtain ⟨ad364, e364, hx364_0⟩ := Kd.at_int HR1.out x5_1 p364 q364
                cases e364
                replace p364 := eq_true p364
                replace q364 := eq_true q364
                go_wp2
                repeat (go_quiet (fail); try go_wp2)
                go_ret
                exact ⟨by first | rfl | (simp; done) | (simp [*]; done), by repeat (first | exact Drawn0.refl _ | apply Drawn0.step)⟩
            · rw [if_neg c6] at H
              exact absurd H (by simp)
          · rw [if_neg c5] at H
            exact absurd H (by simp)
        · rw [if_neg c4] at H
          have c4b0 : decide (x5_1 < (l0.length : Int)) = false := decide_eq_false c4
          clear c4
          obtain rfl := Option.some.inj H
          go_wp2
          repeat (go_quiet (fail); try go_wp2)
          go_ret
          exact ⟨by first | rfl | (simp; done) | (simp [*]; done), by repeat (first | exact Drawn0.refl _ | apply Drawn0.step)⟩
  · rw [if_neg c3] at H
    have c3b0 : ((l0.length : Int) == (l1.length : Int)) = false := beq_eq_false_iff_ne.mpr c3
    have c3b1 : ((l0.length : Int) != (l1.length : Int)) = true := bne_iff_ne.mpr c3
    have c3b2 : (l0.length == l1.length) = false := by first | simpa using c3 | (simp at c3 ⊢; omega)
    obtain rfl := Option.some.inj H
    go_enter Try.func10, Try.ntmps10
    go_wp2
    repeat (go_quiet (fail); try go_wp2)
    go_ret
    exact ⟨by first | rfl | (simp; done) | (simp [*]; done), by repeat (first | exact Drawn0.refl _ | apply Drawn0.step)⟩
/-! ### codewrightlaw34_is: function 13 -/
def codewrightlaw34_is.f (k : Nat) (l0 : List Int) (a1 : Int) (a2 : Bool) (l3 : List Int) (a4 : Int) : Option (Bool) := if a2 = true then (if a1 = 0 then ((codewrightref01_Same.f k l0 l3).bind fun t365 => (some t365)) else (some false)) else (if a1 = a4 then (some ((l0.length : Int) == 0)) else (some false))
set_option maxHeartbeats 8000000 in
set_option maxRecDepth 100000 in
theorem codewrightlaw34_is.calls (k : Nat) (A0 : Option Addr) (c0 : Nat) (l0 : List Int) (a1 : Int) (a2 : Bool) (A3 : Option Addr) (c3 : Nat) (l3 : List Int) (a4 : Int) (r : Bool) (w : World) (hr0 : Kd.C (Kd.int .u32) w A0 l0.length l0) (hc0 : l0.length ≤ c0) (hr3 : Kd.C (Kd.int .u32) w A3 l3.length l3) (hc3 : l3.length ≤ c3) (h : codewrightlaw34_is.f k l0 a1 a2 l3 a4 = some r) :
    Calls Try.prog 13 #[.slice A0 l0.length c0, .int .i64 a1, .bool a2, .slice A3 l3.length c3, .int .i64 a4] w fun e w' => e = .returned (.bool r) ∧ Drawn0 w w' := by
  have HR0 := Aside0.mk hr0
  have HC0 := Aside0.mk hc0
  clear hr0 hc0
  have HR3 := Aside0.mk hr3
  have HC3 := Aside0.mk hc3
  clear hr3 hc3
  have H : (if a2 = true then (if a1 = 0 then ((codewrightref01_Same.f k l0 l3).bind fun t365 => (some t365)) else (some false)) else (if a1 = a4 then (some ((l0.length : Int) == 0)) else (some false))) = some r := h
  clear h
  by_cases c6 : a2 = true
  · subst c6
    have H1 : (if a1 = 0 then ((codewrightref01_Same.f k l0 l3).bind fun t365 => (some t365)) else (some false)) = some r := by rw [if_pos rfl] at H; exact H
    clear H
    have H := H1
    clear H1
    by_cases c7 : a1 = 0
    · rw [if_pos c7] at H
      have c7b0 : (a1 == 0) = true := beq_iff_eq.mpr c7
      have c7b1 : (a1 != 0) = false := bne_eq_false_iff_eq.mpr c7
      clear c7
      replace H := Option.bind_eq_some_iff.mp H
      obtain ⟨t365, A80, H⟩ := H
      replace H : (some t365) = some r := H
      have A8 := Aside0.mk A80
      clear A80
      obtain rfl := Option.some.inj H
      go_enter Try.func13, Try.ntmps13
      go_wp2_with (first | (go_at_call 10; (with_reducible refine (codewrightref01_Same.calls k _ _ l0 _ _ l3 t365 _ ?side1 ?side2 ?side3 ?side4 A8.out).mono ?_); (case side1 => repeat (first | exact HR0.out | (with_reducible refine Kd.C_alloc ?_ _) | (with_reducible refine Kd.C_drewN ?_ _) | (with_reducible refine Kd.C_drew ?_))); (case side2 => exact HC0.out); (case side3 => repeat (first | exact HR3.out | (with_reducible refine Kd.C_alloc ?_ _) | (with_reducible refine Kd.C_drewN ?_ _) | (with_reducible refine Kd.C_drew ?_))); (case side4 => exact HC3.out); rintro e w' ⟨rfl, ⟨nd, rfl⟩⟩))
      go_ret
      exact ⟨by first | rfl | (simp; done) | (simp [*]; done), by repeat (first | exact Drawn0.refl _ | apply Drawn0.step)⟩
    · rw [if_neg c7] at H
      have c7b0 : (a1 == 0) = false := beq_eq_false_iff_ne.mpr c7
      have c7b1 : (a1 != 0) = true := bne_iff_ne.mpr c7
      obtain rfl := Option.some.inj H
      go_enter Try.func13, Try.ntmps13
      go_wp2
      go_ret
      exact ⟨by first | rfl | (simp; done) | (simp [*]; done), by repeat (first | exact Drawn0.refl _ | apply Drawn0.step)⟩
  · replace c6 := Bool.eq_false_iff.mpr c6
    subst c6
    have H1 : (if a1 = a4 then (some ((l0.length : Int) == 0)) else (some false)) = some r := by rw [if_neg (show ¬ (false = true) by decide)] at H; exact H
    clear H
    have H := H1
    clear H1
    by_cases c9 : a1 = a4
    · rw [if_pos c9] at H
      have c9b0 : (a1 == a4) = true := beq_iff_eq.mpr c9
      have c9b1 : (a1 != a4) = false := bne_eq_false_iff_eq.mpr c9
      clear c9
      obtain rfl := Option.some.inj H
      go_enter Try.func13, Try.ntmps13
      go_wp2
      go_ret
      exact ⟨by first | rfl | (simp; done) | (simp [*]; done), by repeat (first | exact Drawn0.refl _ | apply Drawn0.step)⟩
    · rw [if_neg c9] at H
      have c9b0 : (a1 == a4) = false := beq_eq_false_iff_ne.mpr c9
      have c9b1 : (a1 != a4) = true := bne_iff_ne.mpr c9
      obtain rfl := Option.some.inj H
      go_enter Try.func13, Try.ntmps13
      go_wp2
      go_ret
      exact ⟨by first | rfl | (simp; done) | (simp [*]; done), by repeat (first | exact Drawn0.refl _ | apply Drawn0.step)⟩
/-! ### bounds_Singleton: function 15 -/
def bounds_Singleton.f (k : Nat) (a0 : Int) (a1 : Int) (a2 : Int) : Option (List Int × Int) := (bounds_out.f a0 a1 a2).bind fun t366 => (if t366 = true then (some (([] : List Int), 6)) else ((bounds_power.f k a0 (wrap64 ((wrap64 (a1 - a2)) + 1))).bind fun t367 => (some (t367, 0))))
set_option maxHeartbeats 8000000 in
set_option maxRecDepth 100000 in
theorem bounds_Singleton.calls (k : Nat) (a0 : Int) (a1 : Int) (a2 : Int) (r1 : List Int) (r2 : Int) (w : World) (h : bounds_Singleton.f k a0 a1 a2 = some (r1, r2)) :
    Calls Try.prog 15 #[.int .i64 a0, .int .i64 a1, .int .i64 a2] w fun e w' => ∃ v0_ : Value, e = .returned (.tuple #[v0_, .int .i64 r2]) ∧ Kd.R (Kd.int .u32) 41 w' w.heap.size (fun _ => True) v0_ r1 ∧ Below w.heap.size w w' := by
  have HB := Aside0.mk (Below.refl w.heap.size w)
  have H : ((bounds_out.f a0 a1 a2).bind fun t366 => (if t366 = true then (some (([] : List Int), 6)) else ((bounds_power.f k a0 (wrap64 ((wrap64 (a1 - a2)) + 1))).bind fun t367 => (some (t367, 0))))) = some (r1, r2) := h
  clear h
  replace H := Option.bind_eq_some_iff.mp H
  obtain ⟨t366, A40, H⟩ := H
  replace H : (if t366 = true then (some (([] : List Int), 6)) else ((bounds_power.f k a0 (wrap64 ((wrap64 (a1 - a2)) + 1))).bind fun t367 => (some (t367, 0)))) = some (r1, r2) := H
  have A4 := Aside0.mk A40
  clear A40
  by_cases c5 : t366 = true
  · subst c5
    have H1 : (some (([] : List Int), 6)) = some (r1, r2) := by rw [if_pos rfl] at H; exact H
    clear H
    have H := H1
    clear H1
    simp only [Option.some.injEq, Prod.mk.injEq] at H
    obtain ⟨rfl, rfl⟩ := H
    go_enter Try.func15, Try.ntmps15
    go_wp2_with (first | ((with_reducible refine gate_callee (f := 24) rfl ?_); refine goesL_ (some 11) rfl rfl Try.func24 (by kernel_rfl) rfl #[.int .i64 a0, .int .i64 a1, .int .i64 a2] rfl (by (try simp only [List.map_toArray, List.map_cons, List.map_nil]); first | done | rfl | (simp only [List.length_drop, List.length_take]; rfl)) ?_; (with_reducible refine (bounds_out.calls a0 a1 a2 true _ A4.out).mono ?_); rintro e w' ⟨rfl, ⟨nd, rfl⟩⟩; refine ⟨_, rfl, ?_⟩))
    go_ret2
    exact ⟨_, by first | rfl | (simp [errW_none, errW_some] <;> rfl) | (simp [*, errW_none, errW_some] <;> rfl), by first | exact Kd.R_nil _ _ _ _ _ | exact Kd.N_nil _ _ _ _ _ | exact Kd.V_nil _ _ _ _ _ | exact Kd.Q_nil _ _ _ _ _ | exact Kd.S_nil _ _ _ _ _, by repeat (first | (with_reducible first | exact HB.out | apply below_alloc | apply pw_below_drewN | apply below_drew1) | exact HB.out)⟩
  · replace c5 := Bool.eq_false_iff.mpr c5
    subst c5
    have H1 : ((bounds_power.f k a0 (wrap64 ((wrap64 (a1 - a2)) + 1))).bind fun t367 => (some (t367, 0))) = some (r1, r2) := by rw [if_neg (show ¬ (false = true) by decide)] at H; exact H
    clear H
    have H := H1
    clear H1
    replace H := Option.bind_eq_some_iff.mp H
    obtain ⟨t367, A60, H⟩ := H
    replace H : (some (t367, 0)) = some (r1, r2) := H
    have A6 := Aside0.mk A60
    clear A60
    simp only [Option.some.injEq, Prod.mk.injEq] at H
    obtain ⟨rfl, rfl⟩ := H
    go_enter Try.func15, Try.ntmps15
    go_wp2_with (first | ((with_reducible refine gate_callee (f := 24) rfl ?_); refine goesL_ (some 11) rfl rfl Try.func24 (by kernel_rfl) rfl #[.int .i64 a0, .int .i64 a1, .int .i64 a2] rfl (by (try simp only [List.map_toArray, List.map_cons, List.map_nil]); first | done | rfl | (simp only [List.length_drop, List.length_take]; rfl)) ?_; (with_reducible refine (bounds_out.calls a0 a1 a2 false _ A4.out).mono ?_); rintro e w' ⟨rfl, ⟨nd, rfl⟩⟩; refine ⟨_, rfl, ?_⟩) | ((with_reducible refine gate_callee (f := 26) rfl ?_); refine goesL_ (some 17) rfl rfl Try.func26 (by kernel_rfl) rfl #[.int .i64 a0, .int .i64 (wrap64 ((wrap64 (a1 - a2)) + 1))] rfl (by (try simp only [List.map_toArray, List.map_cons, List.map_nil]); first | done | rfl | (simp only [List.length_drop, List.length_take]; rfl)) ?_; (with_reducible refine (bounds_power.calls k a0 (wrap64 ((wrap64 (a1 - a2)) + 1)) t367 _ A6.out).mono ?_); rintro e w7 ⟨v368, rfl, ho0, hb⟩; refine ⟨_, rfl, ?_⟩; have n0_ := Aside0.mk (Kd.R_lower ho0 (below_size (by repeat (first | (with_reducible first | exact HB.out | apply below_alloc | apply pw_below_drewN | apply below_drew1) | exact HB.out)))); have n1_ := Aside0.mk (below_step (by repeat (first | (with_reducible first | exact HB.out | apply below_alloc | apply pw_below_drewN | apply below_drew1) | exact HB.out)) hb); clear HB; have HO369 := n0_; have HB := n1_; clear n0_ n1_; (try clear hb); (try clear hb2); (try clear hk); (try clear hi); (try clear ho0)))
    go_ret2
    exact ⟨_, by first | rfl | (simp [errW_none, errW_some] <;> rfl) | (simp [*, errW_none, errW_some] <;> rfl), by (with_reducible repeat (first | apply Kd.R_alloc | apply Kd.R_drewN | apply Kd.R_drew)); exact HO369.out, by repeat (first | (with_reducible first | exact HB.out | apply below_alloc | apply pw_below_drewN | apply below_drew1) | exact HB.out)⟩
/-! ### bounds_Plotkin: function 16 -/
def bounds_Plotkin.f (k : Nat) (a0 : Int) (a1 : Int) (a2 : Int) : Option (List Int × Int) := (bounds_out.f a0 a1 a2).bind fun t370 => (if t370 = true then (some (([] : List Int), 6)) else (if (wrap64 (a0 * a2)) ≤ (wrap64 ((wrap64 (a0 - 1)) * a1)) then (some (([] : List Int), 11)) else (if (wrap64 ((wrap64 (a0 * a2)) - (wrap64 ((wrap64 (a0 - 1)) * a1)))) = 0 then (none) else ((bounds_whole.f k (wrap64 (Int.tdiv (wrap64 (a0 * a2)) (wrap64 ((wrap64 (a0 * a2)) - (wrap64 ((wrap64 (a0 - 1)) * a1))))))).bind fun t371 => (some (t371, 0))))))
set_option maxHeartbeats 8000000 in
set_option maxRecDepth 100000 in
theorem bounds_Plotkin.calls (k : Nat) (a0 : Int) (a1 : Int) (a2 : Int) (r1 : List Int) (r2 : Int) (w : World) (h : bounds_Plotkin.f k a0 a1 a2 = some (r1, r2)) :
    Calls Try.prog 16 #[.int .i64 a0, .int .i64 a1, .int .i64 a2] w fun e w' => ∃ v0_ : Value, e = .returned (.tuple #[v0_, .int .i64 r2]) ∧ Kd.R (Kd.int .u32) 41 w' w.heap.size (fun _ => True) v0_ r1 ∧ Below w.heap.size w w' := by
  have HB := Aside0.mk (Below.refl w.heap.size w)
  have H : ((bounds_out.f a0 a1 a2).bind fun t370 => (if t370 = true then (some (([] : List Int), 6)) else (if (wrap64 (a0 * a2)) ≤ (wrap64 ((wrap64 (a0 - 1)) * a1)) then (some (([] : List Int), 11)) else (if (wrap64 ((wrap64 (a0 * a2)) - (wrap64 ((wrap64 (a0 - 1)) * a1)))) = 0 then (none) else ((bounds_whole.f k (wrap64 (Int.tdiv (wrap64 (a0 * a2)) (wrap64 ((wrap64 (a0 * a2)) - (wrap64 ((wrap64 (a0 - 1)) * a1))))))).bind fun t371 => (some (t371, 0))))))) = some (r1, r2) := h
  clear h
  replace H := Option.bind_eq_some_iff.mp H
  obtain ⟨t370, A40, H⟩ := H
  replace H : (if t370 = true then (some (([] : List Int), 6)) else (if (wrap64 (a0 * a2)) ≤ (wrap64 ((wrap64 (a0 - 1)) * a1)) then (some (([] : List Int), 11)) else (if (wrap64 ((wrap64 (a0 * a2)) - (wrap64 ((wrap64 (a0 - 1)) * a1)))) = 0 then (none) else ((bounds_whole.f k (wrap64 (Int.tdiv (wrap64 (a0 * a2)) (wrap64 ((wrap64 (a0 * a2)) - (wrap64 ((wrap64 (a0 - 1)) * a1))))))).bind fun t371 => (some (t371, 0)))))) = some (r1, r2) := H
  have A4 := Aside0.mk A40
  clear A40
  by_cases c5 : t370 = true
  · subst c5
    have H1 : (some (([] : List Int), 6)) = some (r1, r2) := by rw [if_pos rfl] at H; exact H
    clear H
    have H := H1
    clear H1
    simp only [Option.some.injEq, Prod.mk.injEq] at H
    obtain ⟨rfl, rfl⟩ := H
    go_enter Try.func16, Try.ntmps16
    go_wp2_with (first | ((with_reducible refine gate_callee (f := 24) rfl ?_); refine goesL_ (some 11) rfl rfl Try.func24 (by kernel_rfl) rfl #[.int .i64 a0, .int .i64 a1, .int .i64 a2] rfl (by (try simp only [List.map_toArray, List.map_cons, List.map_nil]); first | done | rfl | (simp only [List.length_drop, List.length_take]; rfl)) ?_; (with_reducible refine (bounds_out.calls a0 a1 a2 true _ A4.out).mono ?_); rintro e w' ⟨rfl, ⟨nd, rfl⟩⟩; refine ⟨_, rfl, ?_⟩))
    go_ret2
    exact ⟨_, by first | rfl | (simp [errW_none, errW_some] <;> rfl) | (simp [*, errW_none, errW_some] <;> rfl), by first | exact Kd.R_nil _ _ _ _ _ | exact Kd.N_nil _ _ _ _ _ | exact Kd.V_nil _ _ _ _ _ | exact Kd.Q_nil _ _ _ _ _ | exact Kd.S_nil _ _ _ _ _, by repeat (first | (with_reducible first | exact HB.out | apply below_alloc | apply pw_below_drewN | apply below_drew1) | exact HB.out)⟩
  · replace c5 := Bool.eq_false_iff.mpr c5
    subst c5
    have H1 : (if (wrap64 (a0 * a2)) ≤ (wrap64 ((wrap64 (a0 - 1)) * a1)) then (some (([] : List Int), 11)) else (if (wrap64 ((wrap64 (a0 * a2)) - (wrap64 ((wrap64 (a0 - 1)) * a1)))) = 0 then (none) else ((bounds_whole.f k (wrap64 (Int.tdiv (wrap64 (a0 * a2)) (wrap64 ((wrap64 (a0 * a2)) - (wrap64 ((wrap64 (a0 - 1)) * a1))))))).bind fun t371 => (some (t371, 0))))) = some (r1, r2) := by rw [if_neg (show ¬ (false = true) by decide)] at H; exact H
    clear H
    have H := H1
    clear H1
    by_cases c6 : (wrap64 (a0 * a2)) ≤ (wrap64 ((wrap64 (a0 - 1)) * a1))
    · rw [if_pos c6] at H
      have c6b0 : decide ((wrap64 (a0 * a2)) ≤ (wrap64 ((wrap64 (a0 - 1)) * a1))) = true := decide_eq_true c6
      clear c6
      simp only [Option.some.injEq, Prod.mk.injEq] at H
      obtain ⟨rfl, rfl⟩ := H
      go_enter Try.func16, Try.ntmps16
      go_wp2_with (first | ((with_reducible refine gate_callee (f := 24) rfl ?_); refine goesL_ (some 11) rfl rfl Try.func24 (by kernel_rfl) rfl #[.int .i64 a0, .int .i64 a1, .int .i64 a2] rfl (by (try simp only [List.map_toArray, List.map_cons, List.map_nil]); first | done | rfl | (simp only [List.length_drop, List.length_take]; rfl)) ?_; (with_reducible refine (bounds_out.calls a0 a1 a2 false _ A4.out).mono ?_); rintro e w' ⟨rfl, ⟨nd, rfl⟩⟩; refine ⟨_, rfl, ?_⟩))
      go_ret2
      exact ⟨_, by first | rfl | (simp [errW_none, errW_some] <;> rfl) | (simp [*, errW_none, errW_some] <;> rfl), by first | exact Kd.R_nil _ _ _ _ _ | exact Kd.N_nil _ _ _ _ _ | exact Kd.V_nil _ _ _ _ _ | exact Kd.Q_nil _ _ _ _ _ | exact Kd.S_nil _ _ _ _ _, by repeat (first | (with_reducible first | exact HB.out | apply below_alloc | apply pw_below_drewN | apply below_drew1) | exact HB.out)⟩
    · rw [if_neg c6] at H
      have c6b0 : decide ((wrap64 (a0 * a2)) ≤ (wrap64 ((wrap64 (a0 - 1)) * a1))) = false := decide_eq_false c6
      clear c6
      by_cases c7 : (wrap64 ((wrap64 (a0 * a2)) - (wrap64 ((wrap64 (a0 - 1)) * a1)))) = 0
      · rw [if_pos c7] at H
        exact absurd H (by simp)
      · rw [if_neg c7] at H
        have c7b0 : ((wrap64 ((wrap64 (a0 * a2)) - (wrap64 ((wrap64 (a0 - 1)) * a1)))) == 0) = false := beq_eq_false_iff_ne.mpr c7
        have c7b1 : ((wrap64 ((wrap64 (a0 * a2)) - (wrap64 ((wrap64 (a0 - 1)) * a1)))) != 0) = true := bne_iff_ne.mpr c7
        replace H := Option.bind_eq_some_iff.mp H
        obtain ⟨t371, A80, H⟩ := H
        replace H : (some (t371, 0)) = some (r1, r2) := H
        have A8 := Aside0.mk A80
        clear A80
        simp only [Option.some.injEq, Prod.mk.injEq] at H
        obtain ⟨rfl, rfl⟩ := H
        go_enter Try.func16, Try.ntmps16
        go_wp2_with (first | ((with_reducible refine gate_callee (f := 24) rfl ?_); refine goesL_ (some 11) rfl rfl Try.func24 (by kernel_rfl) rfl #[.int .i64 a0, .int .i64 a1, .int .i64 a2] rfl (by (try simp only [List.map_toArray, List.map_cons, List.map_nil]); first | done | rfl | (simp only [List.length_drop, List.length_take]; rfl)) ?_; (with_reducible refine (bounds_out.calls a0 a1 a2 false _ A4.out).mono ?_); rintro e w' ⟨rfl, ⟨nd, rfl⟩⟩; refine ⟨_, rfl, ?_⟩) | ((with_reducible refine gate_callee (f := 32) rfl ?_); refine goesL_ (some 32) rfl rfl Try.func32 (by kernel_rfl) rfl #[.int .i64 (wrap64 (Int.tdiv (wrap64 (a0 * a2)) (wrap64 ((wrap64 (a0 * a2)) - (wrap64 ((wrap64 (a0 - 1)) * a1))))))] rfl (by (try simp only [List.map_toArray, List.map_cons, List.map_nil]); first | done | rfl | (simp only [List.length_drop, List.length_take]; rfl)) ?_; (with_reducible refine (bounds_whole.calls k (wrap64 (Int.tdiv (wrap64 (a0 * a2)) (wrap64 ((wrap64 (a0 * a2)) - (wrap64 ((wrap64 (a0 - 1)) * a1)))))) t371 _ A8.out).mono ?_); rintro e w9 ⟨v372, rfl, ho0, hb⟩; refine ⟨_, rfl, ?_⟩; have n0_ := Aside0.mk (Kd.R_lower ho0 (below_size (by repeat (first | (with_reducible first | exact HB.out | apply below_alloc | apply pw_below_drewN | apply below_drew1) | exact HB.out)))); have n1_ := Aside0.mk (below_step (by repeat (first | (with_reducible first | exact HB.out | apply below_alloc | apply pw_below_drewN | apply below_drew1) | exact HB.out)) hb); clear HB; have HO373 := n0_; have HB := n1_; clear n0_ n1_; (try clear hb); (try clear hb2); (try clear hk); (try clear hi); (try clear ho0)))
        go_ret2
        exact ⟨_, by first | rfl | (simp [errW_none, errW_some] <;> rfl) | (simp [*, errW_none, errW_some] <;> rfl), by (with_reducible repeat (first | apply Kd.R_alloc | apply Kd.R_drewN | apply Kd.R_drew)); exact HO373.out, by repeat (first | (with_reducible first | exact HB.out | apply below_alloc | apply pw_below_drewN | apply below_drew1) | exact HB.out)⟩
end Go.Proofs.Yteemcpcljdjpcaa.PBoundsFormulas
