/- A part of the print of this row, cut down to what the row uses. -/
import Derived.Test.YtjignpnnmfdedaaQBoundsWordsx0
import Derived.Test.YtjignpnnmfdedaaQBoundsWordsx2
import Derived.Test.YtjignpnnmfdedaaQBoundsWordsx3
import Derived.Test.YtjignpnnmfdedaaQBoundsWordsx4
-- printed by a scratch copy of the print, turned (wip/tools/turn_print.py)
namespace Go.Proofs.Ytjignpnnmfdedaa.PBoundsWords
open Go.RowKit Go.Proofs.YtjignpnnmfdedaaW.PrintWords Go.Proofs.YtjignpnnmfdedaaW.PrintLast Go.Proofs.YtjignpnnmfdedaaW.PrintMore
attribute [local go_sem] max2_int min2_int max_two min_two max_three min_three max_four min_four   -- for this text's walks alone
set_option linter.unusedVariables false
set_option linter.unusedSimpArgs false
/-! ### nat_Add: function 74 -/
def nat_Add.l0 : Nat → List Int → List (List Int) → Int → Int → Option (List Int)
  | 0, _, _, _, _ => none
  | k + 1, x3, x6, x7, x8 => if x8 < x7 then (if 0 ≤ x8 then (if x8 < (x6.length : Int) then ((nat_short.f k (rd_L3 x6 x8)).bind fun t246 => ((nat_plus.f k x3 t246).bind fun t249 => (nat_Add.l0 k t249 x6 x7 (wrap64 (x8 + 1))))) else (none)) else (none)) else ((nat_Trim.f k x3).bind fun t252 => (some t252))
def nat_Add.f (k : Nat) (l0 : List (List Int)) : Option (List Int) := nat_Add.l0 k ([] : List Int) l0 (l0.length : Int) 0
set_option maxHeartbeats 8000000 in
set_option maxRecDepth 100000 in
theorem nat_Add.calls (k : Nat) (A0 : Option Addr) (c0 : Nat) (l0 : List (List Int)) (r : List Int) (w : World) (hr0 : Kd.C (Kd.slice 79 (Kd.int .u32)) w A0 l0.length l0) (hc0 : l0.length ≤ c0) (h : nat_Add.f k l0 = some r) :
    Calls Try.prog 74 #[.slice A0 l0.length c0] w fun e w' => ∃ v0_ : Value, e = .returned (v0_) ∧ Kd.R (Kd.int .u32) 79 w' w.heap.size (fun _ => True) v0_ r ∧ Below w.heap.size w w' := by
  have HR0 := Aside0.mk hr0
  have HC0 := Aside0.mk hc0
  clear hr0 hc0
  have HB := Aside0.mk (Below.refl w.heap.size w)
  have H : (nat_Add.l0 k ([] : List Int) l0 (l0.length : Int) 0) = some r := h
  clear h
  have H' := Aside0.mk H
  clear H
  go_enter Try.func74, Try.ntmps74
  go_wp2
  go_loopg [3, 8] k (fun kq v3 v8 w' => ∃ (x3_1 : List Int) (x8_1 : Int), v8 = .int .i64 x8_1 ∧ Aside0 (nat_Add.l0 kq x3_1 l0 (l0.length : Int) x8_1 = some r) ∧ Aside0 (kq ≤ k) ∧ Aside0 (Kd.V (Kd.int .u32) 79 w' w.heap.size (fun _ => True) v3 x3_1) ∧ Aside0 (Below w.heap.size w w'))
  case atStart => exact ⟨(([] : List Int)), (0), (by first | rfl | (simp; done) | (simp [*]; done)), H', ⟨Nat.le_refl _⟩, ⟨Kd.R_V (base := 0) (by first | exact Kd.R_nil _ _ _ _ _ | exact Kd.N_nil _ _ _ _ _ | exact Kd.V_nil _ _ _ _ _ | exact Kd.Q_nil _ _ _ _ _ | exact Kd.S_nil _ _ _ _ _)⟩, ⟨by repeat (first | (with_reducible first | exact HB.out | apply below_alloc | apply pw_below_drewN | apply below_drew1) | exact HB.out)⟩⟩
  case round =>
    clear H'
    obtain ⟨x3_1, x8_1, rfl, HA, HK1, HO_3, HB⟩ := hrel
    cases gk with
    | zero => exact absurd HA.out (by simp [nat_Add.l0])
    | succ k1 =>
      have H := HA.out
      clear HA
      simp only [nat_Add.l0] at H
      by_cases c2 : x8_1 < (l0.length : Int)
      · rw [if_pos c2] at H
        have c2b0 : decide (x8_1 < (l0.length : Int)) = true := decide_eq_true c2
        clear c2
        by_cases c3 : 0 ≤ x8_1
        · rw [if_pos c3] at H
          have c3b0 : decide (0 ≤ x8_1) = true := decide_eq_true c3
          clear c3
          by_cases c4 : x8_1 < (l0.length : Int)
          · rw [if_pos c4] at H
            have c4b0 : decide (x8_1 < (l0.length : Int)) = true := decide_eq_true c4
            clear c4
            replace H := Option.bind_eq_some_iff.mp H
            obtain ⟨t246, A50, H⟩ := H
            replace H : ((nat_plus.f k1 x3_1 t246).bind fun t249 => (nat_Add.l0 k1 t249 l0 (l0.length : Int) (wrap64 (x8_1 + 1)))) = some r := H
            have A5 := Aside0.mk A50
            clear A50
            replace H := Option.bind_eq_some_iff.mp H
            obtain ⟨t249, A60, H⟩ := H
            replace H : (nat_Add.l0 k1 t249 l0 (l0.length : Int) (wrap64 (x8_1 + 1))) = some r := H
            have A6 := Aside0.mk A60
            clear A60
            have H' := Aside0.mk H
            clear H
            have p245 : 0 ≤ (x8_1 : Int) := of_decide_eq_true (by first | (with_reducible assumption) | assumption)
            have q245 : x8_1 < (l0.length : Int) := of_decide_eq_true (by first | (with_reducible assumption) | assumption)
            obtain ⟨ad245, A245_0, c245_0, e245, hx245_0, hl245_0, hi245_0⟩ := at_L3 HR0.out x8_1 p245 q245
            cases e245
            replace hx245_0 := (HB.out.cell (World.block_lt_of_cell? w _ hx245_0)).trans hx245_0
            have HR245_0 := Aside0.mk hi245_0
            have HC245_0 := Aside0.mk hl245_0
            clear hi245_0 hl245_0
            replace p245 := eq_true p245
            replace q245 := eq_true q245
            go_wp2_with (first | ((with_reducible refine gate_callee (f := 104) rfl ?_); refine goesL_ (some 14) rfl rfl Try.func104 (by kernel_rfl) rfl #[.slice A245_0 (rd_L3 l0 x8_1).length c245_0] rfl (by (try simp only [List.map_toArray, List.map_cons, List.map_nil]); first | done | rfl | (simp only [List.length_drop, List.length_take]; rfl)) ?_; (with_reducible refine (nat_short.calls k1 (fun k_ => k_ < w.heap.size) _ _ (rd_L3 l0 x8_1) t246 _ ?side1 A5.out).mono ?_); (case side1 => exact Kd.V_mk HC245_0.out (Kd.F_below (Kd.C_F (Kd.heap_int .u32) HR245_0.out) (by repeat (first | (with_reducible first | exact HB.out | apply below_alloc | apply pw_below_drewN | apply below_drew1) | exact HB.out)))); rintro e w7 ⟨v247, rfl, ho0, hb⟩; refine ⟨_, rfl, ?_⟩; have n0_ := Aside0.mk (Kd.V_below (by (with_reducible repeat (first | apply Kd.V_alloc | apply Kd.V_drewN | apply Kd.V_drew)); exact HO_3.out) hb); have n1_ := Aside0.mk (Kd.V_lower (Kd.V_mono (ok' := fun k_ => True) ho0 (fun k_ hk_ => trivial)) (below_size (by repeat (first | (with_reducible first | exact HB.out | apply below_alloc | apply pw_below_drewN | apply below_drew1) | exact HB.out)))); have n2_ := Aside0.mk (below_step (by repeat (first | (with_reducible first | exact HB.out | apply below_alloc | apply pw_below_drewN | apply below_drew1) | exact HB.out)) hb); clear HO_3; clear HB; have HO_3 := n0_; have HO248 := n1_; have HB := n2_; clear n0_ n1_ n2_; (try clear hb); (try clear hb2); (try clear hk); (try clear hi); (try clear ho0); obtain ⟨Ao8, co8, eo8⟩ := Kd.V_slice HO_3.out; subst eo8; obtain ⟨Ao9, co9, eo9⟩ := Kd.V_slice HO248.out; subst eo9) | ((with_reducible refine gate_callee (f := 107) rfl ?_); refine goesL_ (some 15) rfl rfl Try.func107 (by kernel_rfl) rfl #[.slice Ao8 x3_1.length co8, .slice Ao9 t246.length co9] rfl (by (try simp only [List.map_toArray, List.map_cons, List.map_nil]); first | done | rfl | (simp only [List.length_drop, List.length_take]; rfl)) ?_; (with_reducible refine (nat_plus.calls k1 (fun k_ => True) _ _ x3_1 (fun k_ => True) _ _ t246 t249 _ ?side1 ?side2 A6.out).mono ?_); (case side1 => exact HO_3.out); (case side2 => exact HO248.out); rintro e w10 ⟨v250, rfl, ho0, hb⟩; refine ⟨_, rfl, ?_⟩; have n0_ := Aside0.mk (Kd.V_below (by (with_reducible repeat (first | apply Kd.V_alloc | apply Kd.V_drewN | apply Kd.V_drew)); exact HO_3.out) hb); have n1_ := Aside0.mk (Kd.V_below (by (with_reducible repeat (first | apply Kd.V_alloc | apply Kd.V_drewN | apply Kd.V_drew)); exact HO248.out) hb); have n2_ := Aside0.mk (Kd.V_lower (Kd.V_mono (ok' := fun k_ => True) ho0 (fun k_ hk_ => trivial)) (below_size (by repeat (first | (with_reducible first | exact HB.out | apply below_alloc | apply pw_below_drewN | apply below_drew1) | exact HB.out)))); have n3_ := Aside0.mk (below_step (by repeat (first | (with_reducible first | exact HB.out | apply below_alloc | apply pw_below_drewN | apply below_drew1) | exact HB.out)) hb); clear HO_3; clear HO248; clear HB; have HO_3 := n0_; have HO248 := n1_; have HO251 := n2_; have HB := n3_; clear n0_ n1_ n2_ n3_; (try clear hb); (try clear hb2); (try clear hk); (try clear hi); (try clear ho0)))
            go_roundg k1
            case measure => have := HK1.out; omega
            case rel => exact ⟨(t249), (wrap64 (x8_1 + 1)), (by first | rfl | (simp; done) | (simp [*]; done)), H', ⟨by have := HK1.out; omega⟩, ⟨by (with_reducible repeat (first | apply Kd.V_alloc | apply Kd.V_drewN | apply Kd.V_drew)); exact HO251.out⟩, ⟨by repeat (first | (with_reducible first | exact HB.out | apply below_alloc | apply pw_below_drewN | apply below_drew1) | exact HB.out)⟩⟩
          · rw [if_neg c4] at H
            exact absurd H (by simp)
        · rw [if_neg c3] at H
          exact absurd H (by simp)
      · rw [if_neg c2] at H
        have c2b0 : decide (x8_1 < (l0.length : Int)) = false := decide_eq_false c2
        clear c2
        replace H := Option.bind_eq_some_iff.mp H
        obtain ⟨t252, A110, H⟩ := H
        replace H : (some t252) = some r := H
        have A11 := Aside0.mk A110
        clear A110
        obtain rfl := Option.some.inj H
        obtain ⟨Ao12, co12, eo12⟩ := Kd.V_slice HO_3.out
        subst eo12
        go_wp2_with (first | ((with_reducible refine gate_callee (f := 105) rfl ?_); refine goesL_ (some 18) rfl rfl Try.func105 (by kernel_rfl) rfl #[.slice Ao12 x3_1.length co12] rfl (by (try simp only [List.map_toArray, List.map_cons, List.map_nil]); first | done | rfl | (simp only [List.length_drop, List.length_take]; rfl)) ?_; (with_reducible refine (nat_Trim.calls k1 _ _ x3_1 t252 _ ?side1 ?side2 A11.out).mono ?_); (case side1 => repeat (first | exact (Kd.V_reads' HO_3.out).2.2 | (with_reducible refine Kd.C_alloc ?_ _) | (with_reducible refine Kd.C_drewN ?_ _) | (with_reducible refine Kd.C_drew ?_))); (case side2 => exact (Kd.V_reads' HO_3.out).2.1); rintro e w13 ⟨v253, rfl, ho0, hb⟩; refine ⟨_, rfl, ?_⟩; have n0_ := Aside0.mk (Kd.V_elder' (by (with_reducible repeat (first | apply Kd.V_alloc | apply Kd.V_drewN | apply Kd.V_drew)); exact HO_3.out) (Kd.R_base ho0) hb); have n1_ := Aside0.mk (Kd.R_lower ho0 (below_size (by repeat (first | (with_reducible first | exact HB.out | apply below_alloc | apply pw_below_drewN | apply below_drew1) | exact HB.out)))); have n2_ := Aside0.mk (below_step (by repeat (first | (with_reducible first | exact HB.out | apply below_alloc | apply pw_below_drewN | apply below_drew1) | exact HB.out)) hb); clear HO_3; clear HB; have HO_3 := n0_; have HO254 := n1_; have HB := n2_; clear n0_ n1_ n2_; (try clear hb); (try clear hb2); (try clear hk); (try clear hi); (try clear ho0)))
        go_ret
        exact ⟨_, by first | rfl | (simp [errW_none, errW_some] <;> rfl) | (simp [*, errW_none, errW_some] <;> rfl), by (with_reducible repeat (first | apply Kd.R_alloc | apply Kd.R_drewN | apply Kd.R_drew)); exact HO254.out, by repeat (first | (with_reducible first | exact HB.out | apply below_alloc | apply pw_below_drewN | apply below_drew1) | exact HB.out)⟩
/-! ### bounds_volume: function 58 -/
def bounds_volume.l0 : Nat → Int → Int → Int → List Int → Int → Option (List Int)
  | 0, _, _, _, _, _ => none
  | k + 1, x0, x1, x2, x7, x8 => if x8 ≤ x2 then ((bounds_choose.f k x1 x8).bind fun t255 => ((bounds_power.f k (wrap64 (x0 - 1)) x8).bind fun t258 => ((nat_Mul.f k (([t255, t258] : List (List Int)))).bind fun t264 => ((nat_Add.f k (([x7, t264] : List (List Int)))).bind fun t270 => (bounds_volume.l0 k x0 x1 x2 t270 (wrap64 (x8 + 1))))))) else (some x7)
def bounds_volume.f (k : Nat) (a0 : Int) (a1 : Int) (a2 : Int) : Option (List Int) := bounds_volume.l0 k a0 a1 a2 ([] : List Int) 0
set_option maxHeartbeats 8000000 in
set_option maxRecDepth 100000 in
theorem bounds_volume.calls (k : Nat) (a0 : Int) (a1 : Int) (a2 : Int) (r : List Int) (w : World) (h : bounds_volume.f k a0 a1 a2 = some r) :
    Calls Try.prog 58 #[.int .i64 a0, .int .i64 a1, .int .i64 a2] w fun e w' => ∃ v0_ : Value, e = .returned (v0_) ∧ Kd.R (Kd.int .u32) 79 w' w.heap.size (fun _ => True) v0_ r ∧ Below w.heap.size w w' := by
  have HB := Aside0.mk (Below.refl w.heap.size w)
  have H : (bounds_volume.l0 k a0 a1 a2 ([] : List Int) 0) = some r := h
  clear h
  have H' := Aside0.mk H
  clear H
  go_enter Try.func58, Try.ntmps58
  go_wp2
  go_loopg [7, 8] k (fun kq v7 v8 w' => ∃ (x7_1 : List Int) (x8_1 : Int), v8 = .int .i64 x8_1 ∧ Aside0 (bounds_volume.l0 kq a0 a1 a2 x7_1 x8_1 = some r) ∧ Aside0 (kq ≤ k) ∧ Aside0 (Kd.R (Kd.int .u32) 79 w' w.heap.size (fun _ => True) v7 x7_1) ∧ Aside0 (Below w.heap.size w w'))
  case atStart => exact ⟨(([] : List Int)), (0), (by first | rfl | (simp; done) | (simp [*]; done)), H', ⟨Nat.le_refl _⟩, ⟨by first | exact Kd.R_nil _ _ _ _ _ | exact Kd.N_nil _ _ _ _ _ | exact Kd.V_nil _ _ _ _ _ | exact Kd.Q_nil _ _ _ _ _ | exact Kd.S_nil _ _ _ _ _⟩, ⟨by repeat (first | (with_reducible first | exact HB.out | apply below_alloc | apply pw_below_drewN | apply below_drew1) | exact HB.out)⟩⟩
  case round =>
    clear H'
    try clear p2
    obtain ⟨x7_1, x8_1, rfl, HA, HK1, HO_7, HB⟩ := hrel
    cases gk with
    | zero => exact absurd HA.out (by simp [bounds_volume.l0])
    | succ k1 =>
      have H := HA.out
      clear HA
      simp only [bounds_volume.l0] at H
      by_cases c4 : x8_1 ≤ a2
      · rw [if_pos c4] at H
        have c4b0 : decide (x8_1 ≤ a2) = true := decide_eq_true c4
        clear c4
        replace H := Option.bind_eq_some_iff.mp H
        obtain ⟨t255, A50, H⟩ := H
        replace H : ((bounds_power.f k1 (wrap64 (a0 - 1)) x8_1).bind fun t258 => ((nat_Mul.f k1 (([t255, t258] : List (List Int)))).bind fun t264 => ((nat_Add.f k1 (([x7_1, t264] : List (List Int)))).bind fun t270 => (bounds_volume.l0 k1 a0 a1 a2 t270 (wrap64 (x8_1 + 1)))))) = some r := H
        have A5 := Aside0.mk A50
        clear A50
        replace H := Option.bind_eq_some_iff.mp H
        obtain ⟨t258, A60, H⟩ := H
        replace H : ((nat_Mul.f k1 (([t255, t258] : List (List Int)))).bind fun t264 => ((nat_Add.f k1 (([x7_1, t264] : List (List Int)))).bind fun t270 => (bounds_volume.l0 k1 a0 a1 a2 t270 (wrap64 (x8_1 + 1))))) = some r := H
        have A6 := Aside0.mk A60
        clear A60
        obtain ⟨y261, hy261⟩ : ∃ y_ : List (List Int), y_ = (([t255, t258] : List (List Int))) := ⟨_, rfl⟩
        replace H : ((nat_Mul.f k1 y261).bind fun t264 => ((nat_Add.f k1 (([x7_1, t264] : List (List Int)))).bind fun t270 => (bounds_volume.l0 k1 a0 a1 a2 t270 (wrap64 (x8_1 + 1))))) = some r := by first | (rw [hy261]; with_reducible exact H) | (have H2_ := (Option.bind_some _ _).symm.trans H; rw [hy261]; with_reducible exact H2_) | (have H2_ := (Option.bind_some _ _).symm.trans H; with_reducible exact H2_) | with_reducible exact H | (rw [hy261]; exact H) | exact H
        have Ny261 := Aside0.mk hy261
        clear hy261
        replace H := Option.bind_eq_some_iff.mp H
        obtain ⟨t264, A70, H⟩ := H
        replace H : ((nat_Add.f k1 (([x7_1, t264] : List (List Int)))).bind fun t270 => (bounds_volume.l0 k1 a0 a1 a2 t270 (wrap64 (x8_1 + 1)))) = some r := H
        have A7 := Aside0.mk A70
        clear A70
        obtain ⟨y267, hy267⟩ : ∃ y_ : List (List Int), y_ = (([x7_1, t264] : List (List Int))) := ⟨_, rfl⟩
        replace H : ((nat_Add.f k1 y267).bind fun t270 => (bounds_volume.l0 k1 a0 a1 a2 t270 (wrap64 (x8_1 + 1)))) = some r := by first | (rw [hy267]; with_reducible exact H) | (have H2_ := (Option.bind_some _ _).symm.trans H; rw [hy267]; with_reducible exact H2_) | (have H2_ := (Option.bind_some _ _).symm.trans H; with_reducible exact H2_) | with_reducible exact H | (rw [hy267]; exact H) | exact H
        have Ny267 := Aside0.mk hy267
        clear hy267
        replace H := Option.bind_eq_some_iff.mp H
        obtain ⟨t270, A80, H⟩ := H
        replace H : (bounds_volume.l0 k1 a0 a1 a2 t270 (wrap64 (x8_1 + 1))) = some r := H
        have A8 := Aside0.mk A80
        clear A80
        have H' := Aside0.mk H
        clear H
        go_wp2_with (first | ((with_reducible refine gate_callee (f := 72) rfl ?_); refine goesL_ (some 17) rfl rfl Try.func72 (by kernel_rfl) rfl #[.int .i64 a1, .int .i64 x8_1] rfl (by (try simp only [List.map_toArray, List.map_cons, List.map_nil]); first | done | rfl | (simp only [List.length_drop, List.length_take]; rfl)) ?_; (with_reducible refine (bounds_choose.calls k1 a1 x8_1 t255 _ A5.out).mono ?_); rintro e w9 ⟨v256, rfl, ho0, hb⟩; refine ⟨_, rfl, ?_⟩; have n0_ := Aside0.mk (Kd.R_elder' (by (with_reducible repeat (first | apply Kd.R_alloc | apply Kd.R_drewN | apply Kd.R_drew)); exact HO_7.out) (Kd.R_base ho0) hb); have n1_ := Aside0.mk (Kd.R_lower (Kd.R_new' ho0 (Kd.R_lt (by (with_reducible repeat (first | apply Kd.R_alloc | apply Kd.R_drewN | apply Kd.R_drew)); exact HO_7.out))) (below_size (by repeat (first | (with_reducible first | exact HB.out | apply below_alloc | apply pw_below_drewN | apply below_drew1) | exact HB.out)))); have n2_ := Aside0.mk (below_step (by repeat (first | (with_reducible first | exact HB.out | apply below_alloc | apply pw_below_drewN | apply below_drew1) | exact HB.out)) hb); clear HO_7; clear HB; have HO_7 := n0_; have HO257 := n1_; have HB := n2_; clear n0_ n1_ n2_; (try clear hb); (try clear hb2); (try clear hk); (try clear hi); (try clear ho0)) | ((with_reducible refine gate_callee (f := 65) rfl ?_); refine goesL_ (some 21) rfl rfl Try.func65 (by kernel_rfl) rfl #[.int .i64 (wrap64 (a0 - 1)), .int .i64 x8_1] rfl (by (try simp only [List.map_toArray, List.map_cons, List.map_nil]); first | done | rfl | (simp only [List.length_drop, List.length_take]; rfl)) ?_; (with_reducible refine (bounds_power.calls k1 (wrap64 (a0 - 1)) x8_1 t258 _ A6.out).mono ?_); rintro e w10 ⟨v259, rfl, ho0, hb⟩; refine ⟨_, rfl, ?_⟩; have n0_ := Aside0.mk (Kd.R_elder' (by (with_reducible repeat (first | apply Kd.R_alloc | apply Kd.R_drewN | apply Kd.R_drew)); exact HO_7.out) (Kd.R_base ho0) hb); have n1_ := Aside0.mk (Kd.R_elder' (by (with_reducible repeat (first | apply Kd.R_alloc | apply Kd.R_drewN | apply Kd.R_drew)); exact HO257.out) (Kd.R_base ho0) hb); have n2_ := Aside0.mk (Kd.R_lower (Kd.R_new' (Kd.R_new' ho0 (Kd.R_lt (by (with_reducible repeat (first | apply Kd.R_alloc | apply Kd.R_drewN | apply Kd.R_drew)); exact HO_7.out))) (Kd.R_lt (by (with_reducible repeat (first | apply Kd.R_alloc | apply Kd.R_drewN | apply Kd.R_drew)); exact HO257.out))) (below_size (by repeat (first | (with_reducible first | exact HB.out | apply below_alloc | apply pw_below_drewN | apply below_drew1) | exact HB.out)))); have n3_ := Aside0.mk (below_step (by repeat (first | (with_reducible first | exact HB.out | apply below_alloc | apply pw_below_drewN | apply below_drew1) | exact HB.out)) hb); clear HO_7; clear HO257; clear HB; have HO_7 := n0_; have HO257 := n1_; have HO260 := n2_; have HB := n3_; clear n0_ n1_ n2_ n3_; (try clear hb); (try clear hb2); (try clear hk); (try clear hi); (try clear ho0); obtain ⟨Ao11, co11, eo11⟩ := Kd.R_slice HO257.out; subst eo11; obtain ⟨Ao12, co12, eo12⟩ := Kd.R_slice HO260.out; subst eo12) | ((with_reducible refine gate_dst (N := 22) rfl ?_); refine Kd.N_lit (Kd.slice 79 (Kd.int .u32)) _ 32 ?hg (N' := 22) ?hd (xs := ([t255, t258] : List (List Int))) (inner := [.slice Ao11 t255.length co11, .slice Ao12 t258.length co12]) (ok := (fun k_ => some k_ ≠ (u7 : Value).ownBlock)) (okp := (fun k_ => some k_ ≠ (u7 : Value).ownBlock)) ?hr ?hp (fun _ hk => hk) ((show ∀ k_, w10.heap.size ≤ k_ → (fun k_ => some k_ ≠ (u7 : Value).ownBlock) k_ from fun k_ hk => Kd.fresh' (Kd.R_lt (by (with_reducible repeat (first | apply Kd.R_alloc | apply Kd.R_drewN | apply Kd.R_drew)); exact HO_7.out)) k_ hk) _ (Nat.le_refl _)) (Below.refl _ _) (Nat.le_refl _) (by simp) ?_; (case hd => rfl); (case hg => rfl); (case hr => first | (go_simp; done) | (go_simp; rfl)); (case hp => exact (Reps.one (show Kd.FK (Kd.slice 79 (Kd.int .u32)) _ _ t255 [.slice Ao11 t255.length co11] from (Kd.FK_slice_mk (Kd.R_reads' (Kd.R_mono (ok' := (fun k_ => some k_ ≠ (u7 : Value).ownBlock)) (HO257.out) (fun k_ hk => hk.1.2))).2.1 (Kd.R_F (Kd.R_mono (ok' := (fun k_ => some k_ ≠ (u7 : Value).ownBlock)) (HO257.out) (fun k_ hk => hk.1.2))))) (Reps.one (show Kd.FK (Kd.slice 79 (Kd.int .u32)) _ _ t258 [.slice Ao12 t258.length co12] from (Kd.FK_slice_mk (Kd.R_reads' (Kd.R_mono (ok' := (fun k_ => some k_ ≠ (u7 : Value).ownBlock)) (HO260.out) (fun k_ hk => hk.1.2))).2.1 (Kd.R_F (Kd.R_mono (ok' := (fun k_ => some k_ ≠ (u7 : Value).ownBlock)) (HO260.out) (fun k_ hk => hk.1.2))))) (Reps.none _ _)))); intro v262 w13 ho14 hb hg_ hnew_; clear hg_ hnew_; (first | rw [← Ny261.out] at ho14 | (simp only [Int.reduceToNat] at ho14; rw [← Ny261.out] at ho14)); have n0_ := Aside0.mk (Kd.R_below (by (with_reducible repeat (first | apply Kd.R_alloc | apply Kd.R_drewN | apply Kd.R_drew)); exact HO_7.out) hb); have n1_ := Aside0.mk (Kd.N_lower ho14 (below_size (by repeat (first | (with_reducible first | exact HB.out | apply below_alloc | apply pw_below_drewN | apply below_drew1) | exact HB.out)))); have n2_ := Aside0.mk (below_step (by repeat (first | (with_reducible first | exact HB.out | apply below_alloc | apply pw_below_drewN | apply below_drew1) | exact HB.out)) hb); clear HO_7; clear HB; clear HO257; clear HO260; have HO_7 := n0_; have HO263 := n1_; have HB := n2_; clear n0_ n1_ n2_; clear hb ho14; obtain ⟨Ao15, co15, eo15⟩ := Kd.N_slice HO263.out; subst eo15) | ((with_reducible refine gate_callee (f := 68) rfl ?_); refine goesL_ (some 23) rfl rfl Try.func68 (by kernel_rfl) rfl #[.slice Ao15 y261.length co15] rfl (by (try simp only [List.map_toArray, List.map_cons, List.map_nil]); first | done | rfl | (simp only [List.length_drop, List.length_take]; rfl)) ?_; (with_reducible refine (nat_Mul.calls k1 _ _ y261 t264 _ ?side1 ?side2 A7.out).mono ?_); (case side1 => repeat (first | exact (Kd.N_reads' HO263.out).2.2 | (with_reducible refine Kd.C_alloc ?_ _) | (with_reducible refine Kd.C_drewN ?_ _) | (with_reducible refine Kd.C_drew ?_))); (case side2 => exact (Kd.N_reads' HO263.out).2.1); rintro e w16 ⟨v265, rfl, ho0, hb⟩; refine ⟨_, rfl, ?_⟩; have n0_ := Aside0.mk (Kd.R_elder' (by (with_reducible repeat (first | apply Kd.R_alloc | apply Kd.R_drewN | apply Kd.R_drew)); exact HO_7.out) (Kd.R_base ho0) hb); have n1_ := Aside0.mk (Kd.N_elder' (by (with_reducible repeat (first | apply Kd.N_alloc | apply Kd.N_drewN | apply Kd.N_drew)); exact HO263.out) (Kd.R_base ho0) hb); have n2_ := Aside0.mk (Kd.R_lower (Kd.R_new' ho0 (Kd.R_lt (by (with_reducible repeat (first | apply Kd.R_alloc | apply Kd.R_drewN | apply Kd.R_drew)); exact HO_7.out))) (below_size (by repeat (first | (with_reducible first | exact HB.out | apply below_alloc | apply pw_below_drewN | apply below_drew1) | exact HB.out)))); have n3_ := Aside0.mk (below_step (by repeat (first | (with_reducible first | exact HB.out | apply below_alloc | apply pw_below_drewN | apply below_drew1) | exact HB.out)) hb); clear HO_7; clear HO263; clear HB; have HO_7 := n0_; have HO263 := n1_; have HO266 := n2_; have HB := n3_; clear n0_ n1_ n2_ n3_; (try clear hb); (try clear hb2); (try clear hk); (try clear hi); (try clear ho0); obtain ⟨Ao17, co17, eo17⟩ := Kd.R_slice HO_7.out; subst eo17; obtain ⟨Ao18, co18, eo18⟩ := Kd.R_slice HO266.out; subst eo18) | ((with_reducible refine gate_dst (N := 24) rfl ?_); refine Kd.N_lit (Kd.slice 79 (Kd.int .u32)) _ 32 ?hg (N' := 24) ?hd (xs := ([x7_1, t264] : List (List Int))) (inner := [.slice Ao17 x7_1.length co17, .slice Ao18 t264.length co18]) (ok := (fun k_ => some k_ ≠ (.slice Ao15 y261.length co15 : Value).ownBlock)) (okp := (fun k_ => some k_ ≠ (.slice Ao15 y261.length co15 : Value).ownBlock)) ?hr ?hp (fun _ hk => hk) ((show ∀ k_, w16.heap.size ≤ k_ → (fun k_ => some k_ ≠ (.slice Ao15 y261.length co15 : Value).ownBlock) k_ from fun k_ hk => Kd.fresh' (Kd.N_lt (by (with_reducible repeat (first | apply Kd.N_alloc | apply Kd.N_drewN | apply Kd.N_drew)); exact HO263.out)) k_ hk) _ (Nat.le_refl _)) (Below.refl _ _) (Nat.le_refl _) (by simp) ?_; (case hd => rfl); (case hg => rfl); (case hr => first | (go_simp; done) | (go_simp; rfl)); (case hp => exact (Reps.one (show Kd.FK (Kd.slice 79 (Kd.int .u32)) _ _ x7_1 [.slice Ao17 x7_1.length co17] from (Kd.FK_slice_mk (Kd.R_reads' (Kd.R_mono (ok' := (fun k_ => some k_ ≠ (.slice Ao15 y261.length co15 : Value).ownBlock)) (Kd.R_apart' (HO_7.out) (Kd.N_typed HO263.out) (by decide)) (fun k_ hk => hk.2))).2.1 (Kd.R_F (Kd.R_mono (ok' := (fun k_ => some k_ ≠ (.slice Ao15 y261.length co15 : Value).ownBlock)) (Kd.R_apart' (HO_7.out) (Kd.N_typed HO263.out) (by decide)) (fun k_ hk => hk.2))))) (Reps.one (show Kd.FK (Kd.slice 79 (Kd.int .u32)) _ _ t264 [.slice Ao18 t264.length co18] from (Kd.FK_slice_mk (Kd.R_reads' (Kd.R_mono (ok' := (fun k_ => some k_ ≠ (.slice Ao15 y261.length co15 : Value).ownBlock)) (Kd.R_apart' (HO266.out) (Kd.N_typed HO263.out) (by decide)) (fun k_ hk => hk.2))).2.1 (Kd.R_F (Kd.R_mono (ok' := (fun k_ => some k_ ≠ (.slice Ao15 y261.length co15 : Value).ownBlock)) (Kd.R_apart' (HO266.out) (Kd.N_typed HO263.out) (by decide)) (fun k_ hk => hk.2))))) (Reps.none _ _)))); intro v268 w19 ho20 hb hg_ hnew_; clear hg_ hnew_; (first | rw [← Ny267.out] at ho20 | (simp only [Int.reduceToNat] at ho20; rw [← Ny267.out] at ho20)); have n0_ := Aside0.mk (Kd.N_elder' (by (with_reducible repeat (first | apply Kd.N_alloc | apply Kd.N_drewN | apply Kd.N_drew)); exact HO263.out) (Kd.N_base ho20) hb); have n1_ := Aside0.mk (Kd.N_lower ho20 (below_size (by repeat (first | (with_reducible first | exact HB.out | apply below_alloc | apply pw_below_drewN | apply below_drew1) | exact HB.out)))); have n2_ := Aside0.mk (below_step (by repeat (first | (with_reducible first | exact HB.out | apply below_alloc | apply pw_below_drewN | apply below_drew1) | exact HB.out)) hb); clear HO263; clear HB; clear HO266; clear HO_7; have HO263 := n0_; have HO269 := n1_; have HB := n2_; clear n0_ n1_ n2_; clear hb ho20; obtain ⟨Ao21, co21, eo21⟩ := Kd.N_slice HO269.out; subst eo21) | ((with_reducible refine gate_callee (f := 74) rfl ?_); refine goesL_ (some 25) rfl rfl Try.func74 (by kernel_rfl) rfl #[.slice Ao21 y267.length co21] rfl (by (try simp only [List.map_toArray, List.map_cons, List.map_nil]); first | done | rfl | (simp only [List.length_drop, List.length_take]; rfl)) ?_; (with_reducible refine (nat_Add.calls k1 _ _ y267 t270 _ ?side1 ?side2 A8.out).mono ?_); (case side1 => repeat (first | exact (Kd.N_reads' HO269.out).2.2 | (with_reducible refine Kd.C_alloc ?_ _) | (with_reducible refine Kd.C_drewN ?_ _) | (with_reducible refine Kd.C_drew ?_))); (case side2 => exact (Kd.N_reads' HO269.out).2.1); rintro e w22 ⟨v271, rfl, ho0, hb⟩; refine ⟨_, rfl, ?_⟩; have n0_ := Aside0.mk (Kd.N_elder' (by (with_reducible repeat (first | apply Kd.N_alloc | apply Kd.N_drewN | apply Kd.N_drew)); exact HO263.out) (Kd.R_base ho0) hb); have n1_ := Aside0.mk (Kd.N_elder' (by (with_reducible repeat (first | apply Kd.N_alloc | apply Kd.N_drewN | apply Kd.N_drew)); exact HO269.out) (Kd.R_base ho0) hb); have n2_ := Aside0.mk (Kd.R_lower ho0 (below_size (by repeat (first | (with_reducible first | exact HB.out | apply below_alloc | apply pw_below_drewN | apply below_drew1) | exact HB.out)))); have n3_ := Aside0.mk (below_step (by repeat (first | (with_reducible first | exact HB.out | apply below_alloc | apply pw_below_drewN | apply below_drew1) | exact HB.out)) hb); clear HO263; clear HO269; clear HB; have HO263 := n0_; have HO269 := n1_; have HO272 := n2_; have HB := n3_; clear n0_ n1_ n2_ n3_; (try clear hb); (try clear hb2); (try clear hk); (try clear hi); (try clear ho0)))
        go_roundg k1
        case measure => have := HK1.out; omega
        case rel => exact ⟨(t270), (wrap64 (x8_1 + 1)), (by first | rfl | (simp; done) | (simp [*]; done)), H', ⟨by have := HK1.out; omega⟩, ⟨by (with_reducible repeat (first | apply Kd.R_alloc | apply Kd.R_drewN | apply Kd.R_drew)); exact HO272.out⟩, ⟨by repeat (first | (with_reducible first | exact HB.out | apply below_alloc | apply pw_below_drewN | apply below_drew1) | exact HB.out)⟩⟩
      · rw [if_neg c4] at H
        have c4b0 : decide (x8_1 ≤ a2) = false := decide_eq_false c4
        clear c4
        obtain rfl := Option.some.inj H
        go_wp2
        go_ret
        exact ⟨_, by first | rfl | (simp [errW_none, errW_some] <;> rfl) | (simp [*, errW_none, errW_some] <;> rfl), by (with_reducible repeat (first | apply Kd.R_alloc | apply Kd.R_drewN | apply Kd.R_drew)); exact HO_7.out, by repeat (first | (with_reducible first | exact HB.out | apply below_alloc | apply pw_below_drewN | apply below_drew1) | exact HB.out)⟩
/-! ### nat_Cmp: function 69 -/
def nat_Cmp.l0 : Nat → List Int → List Int → Int → Option (Int)
  | 0, _, _, _ => none
  | k + 1, x0, x1, x5 => if x5 ≥ 0 then (if 0 ≤ x5 then (if x5 < (x0.length : Int) then (if x5 < (x1.length : Int) then (if (rd x0 x5) < (rd x1 x5) then (some (-1)) else (if (rd x0 x5) > (rd x1 x5) then (some 1) else (nat_Cmp.l0 k x0 x1 (wrap64 (x5 - 1))))) else (none)) else (none)) else (none)) else (some 0)
def nat_Cmp.f (k : Nat) (l0 : List Int) (l1 : List Int) : Option (Int) := (nat_short.f k l0).bind fun t273 => ((nat_short.f k l1).bind fun t276 => (if (t273.length : Int) = (t276.length : Int) then (nat_Cmp.l0 k t273 t276 (wrap64 ((t273.length : Int) - 1))) else (if (t273.length : Int) < (t276.length : Int) then (some (-1)) else (some 1))))
set_option maxHeartbeats 8000000 in
set_option maxRecDepth 100000 in
theorem nat_Cmp.calls (k : Nat) (A0 : Option Addr) (c0 : Nat) (l0 : List Int) (A1 : Option Addr) (c1 : Nat) (l1 : List Int) (r : Int) (w : World) (hr0 : Kd.C (Kd.int .u32) w A0 l0.length l0) (hc0 : l0.length ≤ c0) (hr1 : Kd.C (Kd.int .u32) w A1 l1.length l1) (hc1 : l1.length ≤ c1) (h : nat_Cmp.f k l0 l1 = some r) :
    Calls Try.prog 69 #[.slice A0 l0.length c0, .slice A1 l1.length c1] w fun e w' => e = .returned (.int .i64 r) ∧ Below w.heap.size w w' := by
  have HR0 := Aside0.mk hr0
  have HC0 := Aside0.mk hc0
  clear hr0 hc0
  have HR1 := Aside0.mk hr1
  have HC1 := Aside0.mk hc1
  clear hr1 hc1
  have HB := Aside0.mk (Below.refl w.heap.size w)
  have H : ((nat_short.f k l0).bind fun t273 => ((nat_short.f k l1).bind fun t276 => (if (t273.length : Int) = (t276.length : Int) then (nat_Cmp.l0 k t273 t276 (wrap64 ((t273.length : Int) - 1))) else (if (t273.length : Int) < (t276.length : Int) then (some (-1)) else (some 1))))) = some r := h
  clear h
  replace H := Option.bind_eq_some_iff.mp H
  obtain ⟨t273, A30, H⟩ := H
  replace H : ((nat_short.f k l1).bind fun t276 => (if (t273.length : Int) = (t276.length : Int) then (nat_Cmp.l0 k t273 t276 (wrap64 ((t273.length : Int) - 1))) else (if (t273.length : Int) < (t276.length : Int) then (some (-1)) else (some 1)))) = some r := H
  have A3 := Aside0.mk A30
  clear A30
  replace H := Option.bind_eq_some_iff.mp H
  obtain ⟨t276, A40, H⟩ := H
  replace H : (if (t273.length : Int) = (t276.length : Int) then (nat_Cmp.l0 k t273 t276 (wrap64 ((t273.length : Int) - 1))) else (if (t273.length : Int) < (t276.length : Int) then (some (-1)) else (some 1))) = some r := H
  have A4 := Aside0.mk A40
  clear A40
  by_cases c5 : (t273.length : Int) = (t276.length : Int)
  · rw [if_pos c5] at H
    have c5b0 : ((t273.length : Int) == (t276.length : Int)) = true := beq_iff_eq.mpr c5
    have c5b1 : ((t273.length : Int) != (t276.length : Int)) = false := bne_eq_false_iff_eq.mpr c5
    have c5b2 : (t273.length == t276.length) = true := by first | simpa using c5 | (simp at c5 ⊢; omega)
    clear c5
    have H' := Aside0.mk H
    clear H
    go_enter Try.func69, Try.ntmps69
    go_wp2_with (first | (go_at_call 104; (with_reducible refine (nat_short.calls k (fun k_ => k_ < w.heap.size) _ _ l0 t273 _ ?side1 A3.out).mono ?_); (case side1 => exact Kd.V_mk HC0.out (Kd.F_below (Kd.C_F (Kd.heap_int .u32) HR0.out) (by repeat (first | (with_reducible first | exact HB.out | apply below_alloc | apply pw_below_drewN | apply below_drew1) | exact HB.out)))); rintro e w6 ⟨v274, rfl, ho0, hb⟩; have n0_ := Aside0.mk (Kd.V_lower (Kd.V_mono (ok' := fun k_ => True) ho0 (fun k_ hk_ => trivial)) (below_size (by repeat (first | (with_reducible first | exact HB.out | apply below_alloc | apply pw_below_drewN | apply below_drew1) | exact HB.out)))); have n1_ := Aside0.mk (below_step (by repeat (first | (with_reducible first | exact HB.out | apply below_alloc | apply pw_below_drewN | apply below_drew1) | exact HB.out)) hb); clear HB; have HO275 := n0_; have HB := n1_; clear n0_ n1_; (try clear hb); (try clear hb2); (try clear hk); (try clear hi); (try clear ho0)) | (go_at_call 104; (with_reducible refine (nat_short.calls k (fun k_ => k_ < w.heap.size) _ _ l1 t276 _ ?side1 A4.out).mono ?_); (case side1 => exact Kd.V_mk HC1.out (Kd.F_below (Kd.C_F (Kd.heap_int .u32) HR1.out) (by repeat (first | (with_reducible first | exact HB.out | apply below_alloc | apply pw_below_drewN | apply below_drew1) | exact HB.out)))); rintro e w7 ⟨v277, rfl, ho0, hb⟩; have n0_ := Aside0.mk (Kd.V_below (by (with_reducible repeat (first | apply Kd.V_alloc | apply Kd.V_drewN | apply Kd.V_drew)); exact HO275.out) hb); have n1_ := Aside0.mk (Kd.V_lower (Kd.V_mono (ok' := fun k_ => True) ho0 (fun k_ hk_ => trivial)) (below_size (by repeat (first | (with_reducible first | exact HB.out | apply below_alloc | apply pw_below_drewN | apply below_drew1) | exact HB.out)))); have n2_ := Aside0.mk (below_step (by repeat (first | (with_reducible first | exact HB.out | apply below_alloc | apply pw_below_drewN | apply below_drew1) | exact HB.out)) hb); clear HO275; clear HB; have HO275 := n0_; have HO278 := n1_; have HB := n2_; clear n0_ n1_ n2_; (try clear hb); (try clear hb2); (try clear hk); (try clear hi); (try clear ho0); obtain ⟨Ao8, co8, eo8⟩ := Kd.V_slice HO275.out; subst eo8; obtain ⟨Ao9, co9, eo9⟩ := Kd.V_slice HO278.out; subst eo9))
    repeat (go_quiet (first | (go_at_call 104; (with_reducible refine (nat_short.calls k (fun k_ => k_ < w.heap.size) _ _ l0 t273 _ ?side1 A3.out).mono ?_); (case side1 => exact Kd.V_mk HC0.out (Kd.F_below (Kd.C_F (Kd.heap_int .u32) HR0.out) (by repeat (first | (with_reducible first | exact HB.out | apply below_alloc | apply pw_below_drewN | apply below_drew1) | exact HB.out)))); rintro e w6 ⟨v274, rfl, ho0, hb⟩; have n0_ := Aside0.mk (Kd.V_lower (Kd.V_mono (ok' := fun k_ => True) ho0 (fun k_ hk_ => trivial)) (below_size (by repeat (first | (with_reducible first | exact HB.out | apply below_alloc | apply pw_below_drewN | apply below_drew1) | exact HB.out)))); have n1_ := Aside0.mk (below_step (by repeat (first | (with_reducible first | exact HB.out | apply below_alloc | apply pw_below_drewN | apply below_drew1) | exact HB.out)) hb); clear HB; have HO275 := n0_; have HB := n1_; clear n0_ n1_; (try clear hb); (try clear hb2); (try clear hk); (try clear hi); (try clear ho0)) | (go_at_call 104; (with_reducible refine (nat_short.calls k (fun k_ => k_ < w.heap.size) _ _ l1 t276 _ ?side1 A4.out).mono ?_); (case side1 => exact Kd.V_mk HC1.out (Kd.F_below (Kd.C_F (Kd.heap_int .u32) HR1.out) (by repeat (first | (with_reducible first | exact HB.out | apply below_alloc | apply pw_below_drewN | apply below_drew1) | exact HB.out)))); rintro e w7 ⟨v277, rfl, ho0, hb⟩; have n0_ := Aside0.mk (Kd.V_below (by (with_reducible repeat (first | apply Kd.V_alloc | apply Kd.V_drewN | apply Kd.V_drew)); exact HO275.out) hb); have n1_ := Aside0.mk (Kd.V_lower (Kd.V_mono (ok' := fun k_ => True) ho0 (fun k_ hk_ => trivial)) (below_size (by repeat (first | (with_reducible first | exact HB.out | apply below_alloc | apply pw_below_drewN | apply below_drew1) | exact HB.out)))); have n2_ := Aside0.mk (below_step (by repeat (first | (with_reducible first | exact HB.out | apply below_alloc | apply pw_below_drewN | apply below_drew1) | exact HB.out)) hb); clear HO275; clear HB; have HO275 := n0_; have HO278 := n1_; have HB := n2_; clear n0_ n1_ n2_; (try clear hb); (try clear hb2); (try clear hk); (try clear hi); (try clear ho0); obtain ⟨Ao8, co8, eo8⟩ := Kd.V_slice HO275.out; subst eo8; obtain ⟨Ao9, co9, eo9⟩ := Kd.V_slice HO278.out; subst eo9)); try go_wp2_with (first | (go_at_call 104; (with_reducible refine (nat_short.calls k (fun k_ => k_ < w.heap.size) _ _ l0 t273 _ ?side1 A3.out).mono ?_); (case side1 => exact Kd.V_mk HC0.out (Kd.F_below (Kd.C_F (Kd.heap_int .u32) HR0.out) (by repeat (first | (with_reducible first | exact HB.out | apply below_alloc | apply pw_below_drewN | apply below_drew1) | exact HB.out)))); rintro e w6 ⟨v274, rfl, ho0, hb⟩; have n0_ := Aside0.mk (Kd.V_lower (Kd.V_mono (ok' := fun k_ => True) ho0 (fun k_ hk_ => trivial)) (below_size (by repeat (first | (with_reducible first | exact HB.out | apply below_alloc | apply pw_below_drewN | apply below_drew1) | exact HB.out)))); have n1_ := Aside0.mk (below_step (by repeat (first | (with_reducible first | exact HB.out | apply below_alloc | apply pw_below_drewN | apply below_drew1) | exact HB.out)) hb); clear HB; have HO275 := n0_; have HB := n1_; clear n0_ n1_; (try clear hb); (try clear hb2); (try clear hk); (try clear hi); (try clear ho0)) | (go_at_call 104; (with_reducible refine (nat_short.calls k (fun k_ => k_ < w.heap.size) _ _ l1 t276 _ ?side1 A4.out).mono ?_); (case side1 => exact Kd.V_mk HC1.out (Kd.F_below (Kd.C_F (Kd.heap_int .u32) HR1.out) (by repeat (first | (with_reducible first | exact HB.out | apply below_alloc | apply pw_below_drewN | apply below_drew1) | exact HB.out)))); rintro e w7 ⟨v277, rfl, ho0, hb⟩; have n0_ := Aside0.mk (Kd.V_below (by (with_reducible repeat (first | apply Kd.V_alloc | apply Kd.V_drewN | apply Kd.V_drew)); exact HO275.out) hb); have n1_ := Aside0.mk (Kd.V_lower (Kd.V_mono (ok' := fun k_ => True) ho0 (fun k_ hk_ => trivial)) (below_size (by repeat (first | (with_reducible first | exact HB.out | apply below_alloc | apply pw_below_drewN | apply below_drew1) | exact HB.out)))); have n2_ := Aside0.mk (below_step (by repeat (first | (with_reducible first | exact HB.out | apply below_alloc | apply pw_below_drewN | apply below_drew1) | exact HB.out)) hb); clear HO275; clear HB; have HO275 := n0_; have HO278 := n1_; have HB := n2_; clear n0_ n1_ n2_; (try clear hb); (try clear hb2); (try clear hk); (try clear hi); (try clear ho0); obtain ⟨Ao8, co8, eo8⟩ := Kd.V_slice HO275.out; subst eo8; obtain ⟨Ao9, co9, eo9⟩ := Kd.V_slice HO278.out; subst eo9)))
    go_loopg [5] k (fun kq v5 w' => ∃ (x5_1 : Int), v5 = .int .i64 x5_1 ∧ Aside0 (nat_Cmp.l0 kq t273 t276 x5_1 = some r) ∧ Aside0 (kq ≤ k) ∧ Aside0 (Kd.V (Kd.int .u32) 79 w' w.heap.size (fun _ => True) (.slice Ao8 t273.length co8) t273) ∧ Aside0 (Kd.V (Kd.int .u32) 79 w' w.heap.size (fun _ => True) (.slice Ao9 t276.length co9) t276) ∧ Aside0 (Below w.heap.size w w'))
    case atStart => exact ⟨(wrap64 ((t273.length : Int) - 1)), (by first | rfl | (simp; done) | (simp [*]; done)), H', ⟨Nat.le_refl _⟩, ⟨by (with_reducible repeat (first | apply Kd.V_alloc | apply Kd.V_drewN | apply Kd.V_drew)); exact HO275.out⟩, ⟨by (with_reducible repeat (first | apply Kd.V_alloc | apply Kd.V_drewN | apply Kd.V_drew)); exact HO278.out⟩, ⟨by repeat (first | (with_reducible first | exact HB.out | apply below_alloc | apply pw_below_drewN | apply below_drew1) | exact HB.out)⟩⟩
    case round =>
      clear H'
      try clear c1
      try clear p2
      try clear c5
      try clear c5b0
      try clear c5b1
      try clear c5b2
      try clear c6
      try clear p6
      obtain ⟨x5_1, rfl, HA, HK1, HO_0, HO_1, HB⟩ := hrel
      cases gk with
      | zero => exact absurd HA.out (by simp [nat_Cmp.l0])
      | succ k1 =>
        have H := HA.out
        clear HA
        simp only [nat_Cmp.l0] at H
        by_cases c10 : x5_1 ≥ 0
        · rw [if_pos c10] at H
          have c10b0 : decide (0 ≤ x5_1) = true := decide_eq_true c10
          clear c10
          by_cases c11 : 0 ≤ x5_1
          · rw [if_pos c11] at H
            have c11b0 : decide (0 ≤ x5_1) = true := decide_eq_true c11
            clear c11
            by_cases c12 : x5_1 < (t273.length : Int)
            · rw [if_pos c12] at H
              have c12b0 : decide (x5_1 < (t273.length : Int)) = true := decide_eq_true c12
              clear c12
              by_cases c13 : x5_1 < (t276.length : Int)
              · rw [if_pos c13] at H
                have c13b0 : decide (x5_1 < (t276.length : Int)) = true := decide_eq_true c13
                clear c13
                by_cases c14 : (rd t273 x5_1) < (rd t276 x5_1)
                · rw [if_pos c14] at H
                  have c14b0 : decide ((rd t273 x5_1) < (rd t276 x5_1)) = true := decide_eq_true c14
                  clear c14
                  obtain rfl := Option.some.inj H
                  have p279 : 0 ≤ (x5_1 : Int) := of_decide_eq_true (by first | (with_reducible assumption) | assumption)
                  have q279 : x5_1 < (t273.length : Int) := of_decide_eq_true (by first | (with_reducible assumption) | assumption)
                  obtain ⟨ad279, e279, hx279_0⟩ := Kd.at_int (Kd.V_reads' HO_0.out).2.2 x5_1 p279 q279
                  cases e279
                  replace p279 := eq_true p279
                  replace q279 := eq_true q279
                  have p280 : 0 ≤ (x5_1 : Int) := of_decide_eq_true (by first | (with_reducible assumption) | assumption)
                  have q280 : x5_1 < (t276.length : Int) := of_decide_eq_true (by first | (with_reducible assumption) | assumption)
                  obtain ⟨ad280, e280, hx280_0⟩ := Kd.at_int (Kd.V_reads' HO_1.out).2.2 x5_1 p280 q280
                  cases e280
                  replace p280 := eq_true p280
                  replace q280 := eq_true q280
                  go_wp2
                  repeat (go_quiet (fail); try go_wp2)
                  go_ret
                  exact ⟨by first | rfl | (simp [errW_none, errW_some] <;> rfl) | (simp [*, errW_none, errW_some] <;> rfl), by repeat (first | (with_reducible first | exact HB.out | apply below_alloc | apply pw_below_drewN | apply below_drew1) | exact HB.out)⟩
                · rw [if_neg c14] at H
                  have c14b0 : decide ((rd t273 x5_1) < (rd t276 x5_1)) = false := decide_eq_false c14
                  clear c14
                  by_cases c15 : (rd t273 x5_1) > (rd t276 x5_1)
                  · rw [if_pos c15] at H
                    have c15b0 : decide ((rd t276 x5_1) < (rd t273 x5_1)) = true := decide_eq_true c15
                    clear c15
                    obtain rfl := Option.some.inj H
                    have p279 : 0 ≤ (x5_1 : Int) := of_decide_eq_true (by first | (with_reducible assumption) | assumption)
                    have q279 : x5_1 < (t273.length : Int) := of_decide_eq_true (by first | (with_reducible assumption) | assumption)
                    obtain ⟨ad279, e279, hx279_0⟩ := Kd.at_int (Kd.V_reads' HO_0.out).2.2 x5_1 p279 q279
                    cases e279
                    replace p279 := eq_true p279
                    replace q279 := eq_true q279
                    have p280 : 0 ≤ (x5_1 : Int) := of_decide_eq_true (by first | (with_reducible assumption) | assumption)
                    have q280 : x5_1 < (t276.length : Int) := of_decide_eq_true (by first | (with_reducible assumption) | assumption)
                    obtain ⟨ad280, e280, hx280_0⟩ := Kd.at_int (Kd.V_reads' HO_1.out).2.2 x5_1 p280 q280
                    cases e280
                    replace p280 := eq_true p280
                    replace q280 := eq_true q280
                    have p281 : 0 ≤ (x5_1 : Int) := of_decide_eq_true (by first | (with_reducible assumption) | assumption)
                    have q281 : x5_1 < (t273.length : Int) := of_decide_eq_true (by first | (with_reducible assumption) | assumption)
                    obtain ⟨ad281, e281, hx281_0⟩ := Kd.at_int (Kd.V_reads' HO_0.out).2.2 x5_1 p281 q281
                    obtain rfl : ad279 = ad281 := (by injection e281)
                    replace p281 := eq_true p281
                    replace q281 := eq_true q281
                    have p282 : 0 ≤ (x5_1 : Int) := of_decide_eq_true (by first | (with_reducible assumption) | assumption)
                    have q282 : x5_1 < (t276.length : Int) := of_decide_eq_true (by first | (with_reducible assumption) | assumption)
                    obtain ⟨ad282, e282, hx282_0⟩ := Kd.at_int (Kd.V_reads' HO_1.out).2.2 x5_1 p282 q282
                    obtain rfl : ad280 = ad282 := (by injection e282)
                    replace p282 := eq_true p282
                    replace q282 := eq_true q282
                    go_wp2
                    repeat (go_quiet (fail); try go_wp2)
                    go_ret
                    exact ⟨by first | rfl | (simp [errW_none, errW_some] <;> rfl) | (simp [*, errW_none, errW_some] <;> rfl), by repeat (first | (with_reducible first | exact HB.out | apply below_alloc | apply pw_below_drewN | apply below_drew1) | exact HB.out)⟩
                  · rw [if_neg c15] at H
                    have c15b0 : decide ((rd t276 x5_1) < (rd t273 x5_1)) = false := decide_eq_false c15
                    clear c15
                    have H' := Aside0.mk H
                    clear H
                    have p279 : 0 ≤ (x5_1 : Int) := of_decide_eq_true (by first | (with_reducible assumption) | assumption)
                    have q279 : x5_1 < (t273.length : Int) := of_decide_eq_true (by first | (with_reducible assumption) | assumption)
                    obtain ⟨ad279, e279, hx279_0⟩ := Kd.at_int (Kd.V_reads' HO_0.out).2.2 x5_1 p279 q279
                    cases e279
                    replace p279 := eq_true p279
                    replace q279 := eq_true q279
                    have p280 : 0 ≤ (x5_1 : Int) := of_decide_eq_true (by first | (with_reducible assumption) | assumption)
                    have q280 : x5_1 < (t276.length : Int) := of_decide_eq_true (by first | (with_reducible assumption) | assumption)
                    obtain ⟨ad280, e280, hx280_0⟩ := Kd.at_int (Kd.V_reads' HO_1.out).2.2 x5_1 p280 q280
                    cases e280
                    replace p280 := eq_true p280
                    replace q280 := eq_true q280
                    have p281 : 0 ≤ (x5_1 : Int) := of_decide_eq_true (by first | (with_reducible assumption) | assumption)
                    have q281 : x5_1 < (t273.length : Int) := of_decide_eq_true (by first | (with_reducible assumption) | assumption)
                    obtain ⟨ad281, e281, hx281_0⟩ := Kd.at_int (Kd.V_reads' HO_0.out).2.2 x5_1 p281 q281
                    obtain rfl : ad279 = ad281 := (by injection e281)
                    replace p281 := eq_true p281
                    replace q281 := eq_true q281
                    have p282 : 0 ≤ (x5_1 : Int) := of_decide_eq_true (by first | (with_reducible assumption) | assumption)
                    have q282 : x5_1 < (t276.length : Int) := of_decide_eq_true (by first | (with_reducible assumption) | assumption)
                    obtain ⟨ad282, e282, hx282_0⟩ := Kd.at_int (Kd.V_reads' HO_1.out).2.2 x5_1 p282 q282
                    obtain rfl : ad280 = ad282 := (by injection e282)
                    replace p282 := eq_true p282
                    replace q282 := eq_true q282
                    go_wp2
                    repeat (go_quiet (fail); try go_wp2)
                    go_roundg k1
                    case measure => have := HK1.out; omega
                    case rel => exact ⟨(wrap64 (x5_1 - 1)), (by first | rfl | (simp; done) | (simp [*]; done)), H', ⟨by have := HK1.out; omega⟩, ⟨by (with_reducible repeat (first | apply Kd.V_alloc | apply Kd.V_drewN | apply Kd.V_drew)); exact HO_0.out⟩, ⟨by (with_reducible repeat (first | apply Kd.V_alloc | apply Kd.V_drewN | apply Kd.V_drew)); exact HO_1.out⟩, ⟨by repeat (first | (with_reducible first | exact HB.out | apply below_alloc | apply pw_below_drewN | apply below_drew1) | exact HB.out)⟩⟩
              · rw [if_neg c13] at H
                exact absurd H (by simp)
            · rw [if_neg c12] at H
              exact absurd H (by simp)
          · rw [if_neg c11] at H
            exact absurd H (by simp)
        · rw [if_neg c10] at H
          have c10b0 : decide (0 ≤ x5_1) = false := decide_eq_false c10
          clear c10
          obtain rfl := Option.some.inj H
          go_wp2
          repeat (go_quiet (fail); try go_wp2)
          go_ret
          exact ⟨by first | rfl | (simp [errW_none, errW_some] <;> rfl) | (simp [*, errW_none, errW_some] <;> rfl), by repeat (first | (with_reducible first | exact HB.out | apply below_alloc | apply pw_below_drewN | apply below_drew1) | exact HB.out)⟩
  · rw [if_neg c5] at H
    have c5b0 : ((t273.length : Int) == (t276.length : Int)) = false := beq_eq_false_iff_ne.mpr c5
    have c5b1 : ((t273.length : Int) != (t276.length : Int)) = true := bne_iff_ne.mpr c5
    have c5b2 : (t273.length == t276.length) = false := by first | simpa using c5 | (simp at c5 ⊢; omega)
    by_cases c16 : (t273.length : Int) < (t276.length : Int)
    · rw [if_pos c16] at H
      have c16b0 : decide ((t273.length : Int) < (t276.length : Int)) = true := decide_eq_true c16
      have c16b1 : decide (t273.length < t276.length) = true := decide_eq_true (Int.ofNat_lt.mp c16)
      clear c16
      obtain rfl := Option.some.inj H
      go_enter Try.func69, Try.ntmps69
      go_wp2_with (first | (go_at_call 104; (with_reducible refine (nat_short.calls k (fun k_ => k_ < w.heap.size) _ _ l0 t273 _ ?side1 A3.out).mono ?_); (case side1 => exact Kd.V_mk HC0.out (Kd.F_below (Kd.C_F (Kd.heap_int .u32) HR0.out) (by repeat (first | (with_reducible first | exact HB.out | apply below_alloc | apply pw_below_drewN | apply below_drew1) | exact HB.out)))); rintro e w17 ⟨v274, rfl, ho0, hb⟩; have n0_ := Aside0.mk (Kd.V_lower (Kd.V_mono (ok' := fun k_ => True) ho0 (fun k_ hk_ => trivial)) (below_size (by repeat (first | (with_reducible first | exact HB.out | apply below_alloc | apply pw_below_drewN | apply below_drew1) | exact HB.out)))); have n1_ := Aside0.mk (below_step (by repeat (first | (with_reducible first | exact HB.out | apply below_alloc | apply pw_below_drewN | apply below_drew1) | exact HB.out)) hb); clear HB; have HO275 := n0_; have HB := n1_; clear n0_ n1_; (try clear hb); (try clear hb2); (try clear hk); (try clear hi); (try clear ho0)) | (go_at_call 104; (with_reducible refine (nat_short.calls k (fun k_ => k_ < w.heap.size) _ _ l1 t276 _ ?side1 A4.out).mono ?_); (case side1 => exact Kd.V_mk HC1.out (Kd.F_below (Kd.C_F (Kd.heap_int .u32) HR1.out) (by repeat (first | (with_reducible first | exact HB.out | apply below_alloc | apply pw_below_drewN | apply below_drew1) | exact HB.out)))); rintro e w18 ⟨v277, rfl, ho0, hb⟩; have n0_ := Aside0.mk (Kd.V_below (by (with_reducible repeat (first | apply Kd.V_alloc | apply Kd.V_drewN | apply Kd.V_drew)); exact HO275.out) hb); have n1_ := Aside0.mk (Kd.V_lower (Kd.V_mono (ok' := fun k_ => True) ho0 (fun k_ hk_ => trivial)) (below_size (by repeat (first | (with_reducible first | exact HB.out | apply below_alloc | apply pw_below_drewN | apply below_drew1) | exact HB.out)))); have n2_ := Aside0.mk (below_step (by repeat (first | (with_reducible first | exact HB.out | apply below_alloc | apply pw_below_drewN | apply below_drew1) | exact HB.out)) hb); clear HO275; clear HB; have HO275 := n0_; have HO278 := n1_; have HB := n2_; clear n0_ n1_ n2_; (try clear hb); (try clear hb2); (try clear hk); (try clear hi); (try clear ho0); obtain ⟨Ao19, co19, eo19⟩ := Kd.V_slice HO275.out; subst eo19; obtain ⟨Ao20, co20, eo20⟩ := Kd.V_slice HO278.out; subst eo20))
      repeat (go_quiet (first | (go_at_call 104; (with_reducible refine (nat_short.calls k (fun k_ => k_ < w.heap.size) _ _ l0 t273 _ ?side1 A3.out).mono ?_); (case side1 => exact Kd.V_mk HC0.out (Kd.F_below (Kd.C_F (Kd.heap_int .u32) HR0.out) (by repeat (first | (with_reducible first | exact HB.out | apply below_alloc | apply pw_below_drewN | apply below_drew1) | exact HB.out)))); rintro e w17 ⟨v274, rfl, ho0, hb⟩; have n0_ := Aside0.mk (Kd.V_lower (Kd.V_mono (ok' := fun k_ => True) ho0 (fun k_ hk_ => trivial)) (below_size (by repeat (first | (with_reducible first | exact HB.out | apply below_alloc | apply pw_below_drewN | apply below_drew1) | exact HB.out)))); have n1_ := Aside0.mk (below_step (by repeat (first | (with_reducible first | exact HB.out | apply below_alloc | apply pw_below_drewN | apply below_drew1) | exact HB.out)) hb); clear HB; have HO275 := n0_; have HB := n1_; clear n0_ n1_; (try clear hb); (try clear hb2); (try clear hk); (try clear hi); (try clear ho0)) | (go_at_call 104; (with_reducible refine (nat_short.calls k (fun k_ => k_ < w.heap.size) _ _ l1 t276 _ ?side1 A4.out).mono ?_); (case side1 => exact Kd.V_mk HC1.out (Kd.F_below (Kd.C_F (Kd.heap_int .u32) HR1.out) (by repeat (first | (with_reducible first | exact HB.out | apply below_alloc | apply pw_below_drewN | apply below_drew1) | exact HB.out)))); rintro e w18 ⟨v277, rfl, ho0, hb⟩; have n0_ := Aside0.mk (Kd.V_below (by (with_reducible repeat (first | apply Kd.V_alloc | apply Kd.V_drewN | apply Kd.V_drew)); exact HO275.out) hb); have n1_ := Aside0.mk (Kd.V_lower (Kd.V_mono (ok' := fun k_ => True) ho0 (fun k_ hk_ => trivial)) (below_size (by repeat (first | (with_reducible first | exact HB.out | apply below_alloc | apply pw_below_drewN | apply below_drew1) | exact HB.out)))); have n2_ := Aside0.mk (below_step (by repeat (first | (with_reducible first | exact HB.out | apply below_alloc | apply pw_below_drewN | apply below_drew1) | exact HB.out)) hb); clear HO275; clear HB; have HO275 := n0_; have HO278 := n1_; have HB := n2_; clear n0_ n1_ n2_; (try clear hb); (try clear hb2); (try clear hk); (try clear hi); (try clear ho0); obtain ⟨Ao19, co19, eo19⟩ := Kd.V_slice HO275.out; subst eo19; obtain ⟨Ao20, co20, eo20⟩ := Kd.V_slice HO278.out; subst eo20)); try go_wp2_with (first | (go_at_call 104; (with_reducible refine (nat_short.calls k (fun k_ => k_ < w.heap.size) _ _ l0 t273 _ ?side1 A3.out).mono ?_); (case side1 => exact Kd.V_mk HC0.out (Kd.F_below (Kd.C_F (Kd.heap_int .u32) HR0.out) (by repeat (first | (with_reducible first | exact HB.out | apply below_alloc | apply pw_below_drewN | apply below_drew1) | exact HB.out)))); rintro e w17 ⟨v274, rfl, ho0, hb⟩; have n0_ := Aside0.mk (Kd.V_lower (Kd.V_mono (ok' := fun k_ => True) ho0 (fun k_ hk_ => trivial)) (below_size (by repeat (first | (with_reducible first | exact HB.out | apply below_alloc | apply pw_below_drewN | apply below_drew1) | exact HB.out)))); have n1_ := Aside0.mk (below_step (by repeat (first | (with_reducible first | exact HB.out | apply below_alloc | apply pw_below_drewN | apply below_drew1) | exact HB.out)) hb); clear HB; have HO275 := n0_; have HB := n1_; clear n0_ n1_; (try clear hb); (try clear hb2); (try clear hk); (try clear hi); (try clear ho0)) | (go_at_call 104; (with_reducible refine (nat_short.calls k (fun k_ => k_ < w.heap.size) _ _ l1 t276 _ ?side1 A4.out).mono ?_); (case side1 => exact Kd.V_mk HC1.out (Kd.F_below (Kd.C_F (Kd.heap_int .u32) HR1.out) (by repeat (first | (with_reducible first | exact HB.out | apply below_alloc | apply pw_below_drewN | apply below_drew1) | exact HB.out)))); rintro e w18 ⟨v277, rfl, ho0, hb⟩; have n0_ := Aside0.mk (Kd.V_below (by (with_reducible repeat (first | apply Kd.V_alloc | apply Kd.V_drewN | apply Kd.V_drew)); exact HO275.out) hb); have n1_ := Aside0.mk (Kd.V_lower (Kd.V_mono (ok' := fun k_ => True) ho0 (fun k_ hk_ => trivial)) (below_size (by repeat (first | (with_reducible first | exact HB.out | apply below_alloc | apply pw_below_drewN | apply below_drew1) | exact HB.out)))); have n2_ := Aside0.mk (below_step (by repeat (first | (with_reducible first | exact HB.out | apply below_alloc | apply pw_below_drewN | apply below_drew1) | exact HB.out)) hb); clear HO275; clear HB; have HO275 := n0_; have HO278 := n1_; have HB := n2_; clear n0_ n1_ n2_; (try clear hb); (try clear hb2); (try clear hk); (try clear hi); (try clear ho0); obtain ⟨Ao19, co19, eo19⟩ := Kd.V_slice HO275.out; subst eo19; obtain ⟨Ao20, co20, eo20⟩ := Kd.V_slice HO278.out; subst eo20)))
      go_ret
      exact ⟨by first | rfl | (simp [errW_none, errW_some] <;> rfl) | (simp [*, errW_none, errW_some] <;> rfl), by repeat (first | (with_reducible first | exact HB.out | apply below_alloc | apply pw_below_drewN | apply below_drew1) | exact HB.out)⟩
    · rw [if_neg c16] at H
      have c16b0 : decide ((t273.length : Int) < (t276.length : Int)) = false := decide_eq_false c16
      have c16b1 : decide (t273.length < t276.length) = false := decide_eq_false (fun h => c16 (Int.ofNat_lt.mpr h))
      clear c16
      obtain rfl := Option.some.inj H
      go_enter Try.func69, Try.ntmps69
      go_wp2_with (first | (go_at_call 104; (with_reducible refine (nat_short.calls k (fun k_ => k_ < w.heap.size) _ _ l0 t273 _ ?side1 A3.out).mono ?_); (case side1 => exact Kd.V_mk HC0.out (Kd.F_below (Kd.C_F (Kd.heap_int .u32) HR0.out) (by repeat (first | (with_reducible first | exact HB.out | apply below_alloc | apply pw_below_drewN | apply below_drew1) | exact HB.out)))); rintro e w21 ⟨v274, rfl, ho0, hb⟩; have n0_ := Aside0.mk (Kd.V_lower (Kd.V_mono (ok' := fun k_ => True) ho0 (fun k_ hk_ => trivial)) (below_size (by repeat (first | (with_reducible first | exact HB.out | apply below_alloc | apply pw_below_drewN | apply below_drew1) | exact HB.out)))); have n1_ := Aside0.mk (below_step (by repeat (first | (with_reducible first | exact HB.out | apply below_alloc | apply pw_below_drewN | apply below_drew1) | exact HB.out)) hb); clear HB; have HO275 := n0_; have HB := n1_; clear n0_ n1_; (try clear hb); (try clear hb2); (try clear hk); (try clear hi); (try clear ho0)) | (go_at_call 104; (with_reducible refine (nat_short.calls k (fun k_ => k_ < w.heap.size) _ _ l1 t276 _ ?side1 A4.out).mono ?_); (case side1 => exact Kd.V_mk HC1.out (Kd.F_below (Kd.C_F (Kd.heap_int .u32) HR1.out) (by repeat (first | (with_reducible first | exact HB.out | apply below_alloc | apply pw_below_drewN | apply below_drew1) | exact HB.out)))); rintro e w22 ⟨v277, rfl, ho0, hb⟩; have n0_ := Aside0.mk (Kd.V_below (by (with_reducible repeat (first | apply Kd.V_alloc | apply Kd.V_drewN | apply Kd.V_drew)); exact HO275.out) hb); have n1_ := Aside0.mk (Kd.V_lower (Kd.V_mono (ok' := fun k_ => True) ho0 (fun k_ hk_ => trivial)) (below_size (by repeat (first | (with_reducible first | exact HB.out | apply below_alloc | apply pw_below_drewN | apply below_drew1) | exact HB.out)))); have n2_ := Aside0.mk (below_step (by repeat (first | (with_reducible first | exact HB.out | apply below_alloc | apply pw_below_drewN | apply below_drew1) | exact HB.out)) hb); clear HO275; clear HB; have HO275 := n0_; have HO278 := n1_; have HB := n2_; clear n0_ n1_ n2_; (try clear hb); (try clear hb2); (try clear hk); (try clear hi); (try clear ho0); obtain ⟨Ao23, co23, eo23⟩ := Kd.V_slice HO275.out; subst eo23; obtain ⟨Ao24, co24, eo24⟩ := Kd.V_slice HO278.out; subst eo24))
      repeat (go_quiet (first | (go_at_call 104; (with_reducible refine (nat_short.calls k (fun k_ => k_ < w.heap.size) _ _ l0 t273 _ ?side1 A3.out).mono ?_); (case side1 => exact Kd.V_mk HC0.out (Kd.F_below (Kd.C_F (Kd.heap_int .u32) HR0.out) (by repeat (first | (with_reducible first | exact HB.out | apply below_alloc | apply pw_below_drewN | apply below_drew1) | exact HB.out)))); rintro e w21 ⟨v274, rfl, ho0, hb⟩; have n0_ := Aside0.mk (Kd.V_lower (Kd.V_mono (ok' := fun k_ => True) ho0 (fun k_ hk_ => trivial)) (below_size (by repeat (first | (with_reducible first | exact HB.out | apply below_alloc | apply pw_below_drewN | apply below_drew1) | exact HB.out)))); have n1_ := Aside0.mk (below_step (by repeat (first | (with_reducible first | exact HB.out | apply below_alloc | apply pw_below_drewN | apply below_drew1) | exact HB.out)) hb); clear HB; have HO275 := n0_; have HB := n1_; clear n0_ n1_; (try clear hb); (try clear hb2); (try clear hk); (try clear hi); (try clear ho0)) | (go_at_call 104; (with_reducible refine (nat_short.calls k (fun k_ => k_ < w.heap.size) _ _ l1 t276 _ ?side1 A4.out).mono ?_); (case side1 => exact Kd.V_mk HC1.out (Kd.F_below (Kd.C_F (Kd.heap_int .u32) HR1.out) (by repeat (first | (with_reducible first | exact HB.out | apply below_alloc | apply pw_below_drewN | apply below_drew1) | exact HB.out)))); rintro e w22 ⟨v277, rfl, ho0, hb⟩; have n0_ := Aside0.mk (Kd.V_below (by (with_reducible repeat (first | apply Kd.V_alloc | apply Kd.V_drewN | apply Kd.V_drew)); exact HO275.out) hb); have n1_ := Aside0.mk (Kd.V_lower (Kd.V_mono (ok' := fun k_ => True) ho0 (fun k_ hk_ => trivial)) (below_size (by repeat (first | (with_reducible first | exact HB.out | apply below_alloc | apply pw_below_drewN | apply below_drew1) | exact HB.out)))); have n2_ := Aside0.mk (below_step (by repeat (first | (with_reducible first | exact HB.out | apply below_alloc | apply pw_below_drewN | apply below_drew1) | exact HB.out)) hb); clear HO275; clear HB; have HO275 := n0_; have HO278 := n1_; have HB := n2_; clear n0_ n1_ n2_; (try clear hb); (try clear hb2); (try clear hk); (try clear hi); (try clear ho0); obtain ⟨Ao23, co23, eo23⟩ := Kd.V_slice HO275.out; subst eo23; obtain ⟨Ao24, co24, eo24⟩ := Kd.V_slice HO278.out; subst eo24)); try go_wp2_with (first | (go_at_call 104; (with_reducible refine (nat_short.calls k (fun k_ => k_ < w.heap.size) _ _ l0 t273 _ ?side1 A3.out).mono ?_); (case side1 => exact Kd.V_mk HC0.out (Kd.F_below (Kd.C_F (Kd.heap_int .u32) HR0.out) (by repeat (first | (with_reducible first | exact HB.out | apply below_alloc | apply pw_below_drewN | apply below_drew1) | exact HB.out)))); rintro e w21 ⟨v274, rfl, ho0, hb⟩; have n0_ := Aside0.mk (Kd.V_lower (Kd.V_mono (ok' := fun k_ => True) ho0 (fun k_ hk_ => trivial)) (below_size (by repeat (first | (with_reducible first | exact HB.out | apply below_alloc | apply pw_below_drewN | apply below_drew1) | exact HB.out)))); have n1_ := Aside0.mk (below_step (by repeat (first | (with_reducible first | exact HB.out | apply below_alloc | apply pw_below_drewN | apply below_drew1) | exact HB.out)) hb); clear HB; have HO275 := n0_; have HB := n1_; clear n0_ n1_; (try clear hb); (try clear hb2); (try clear hk); (try clear hi); (try clear ho0)) | (go_at_call 104; (with_reducible refine (nat_short.calls k (fun k_ => k_ < w.heap.size) _ _ l1 t276 _ ?side1 A4.out).mono ?_); (case side1 => exact Kd.V_mk HC1.out (Kd.F_below (Kd.C_F (Kd.heap_int .u32) HR1.out) (by repeat (first | (with_reducible first | exact HB.out | apply below_alloc | apply pw_below_drewN | apply below_drew1) | exact HB.out)))); rintro e w22 ⟨v277, rfl, ho0, hb⟩; have n0_ := Aside0.mk (Kd.V_below (by (with_reducible repeat (first | apply Kd.V_alloc | apply Kd.V_drewN | apply Kd.V_drew)); exact HO275.out) hb); have n1_ := Aside0.mk (Kd.V_lower (Kd.V_mono (ok' := fun k_ => True) ho0 (fun k_ hk_ => trivial)) (below_size (by repeat (first | (with_reducible first | exact HB.out | apply below_alloc | apply pw_below_drewN | apply below_drew1) | exact HB.out)))); have n2_ := Aside0.mk (below_step (by repeat (first | (with_reducible first | exact HB.out | apply below_alloc | apply pw_below_drewN | apply below_drew1) | exact HB.out)) hb); clear HO275; clear HB; have HO275 := n0_; have HO278 := n1_; have HB := n2_; clear n0_ n1_ n2_; (try clear hb); (try clear hb2); (try clear hk); (try clear hi); (try clear ho0); obtain ⟨Ao23, co23, eo23⟩ := Kd.V_slice HO275.out; subst eo23; obtain ⟨Ao24, co24, eo24⟩ := Kd.V_slice HO278.out; subst eo24)))
      go_ret
      exact ⟨by first | rfl | (simp [errW_none, errW_some] <;> rfl) | (simp [*, errW_none, errW_some] <;> rfl), by repeat (first | (with_reducible first | exact HB.out | apply below_alloc | apply pw_below_drewN | apply below_drew1) | exact HB.out)⟩
/-! ### bits_LeadingZeros32: function 126 -/
def bits_LeadingZeros32.f (a0 : Int) : Option (Int) := (bits_Len32.f a0).bind fun t283 => (some (wrap64 (32 - t283)))
set_option maxHeartbeats 8000000 in
set_option maxRecDepth 100000 in
theorem bits_LeadingZeros32.calls (a0 : Int) (r : Int) (w : World) (h : bits_LeadingZeros32.f a0 = some r) :
    Calls Try.prog 126 #[.int .u32 a0] w fun e w' => e = .returned (.int .i64 r) ∧ Drawn0 w w' := by
  have H : ((bits_Len32.f a0).bind fun t283 => (some (wrap64 (32 - t283)))) = some r := h
  clear h
  replace H := Option.bind_eq_some_iff.mp H
  obtain ⟨t283, A20, H⟩ := H
  replace H : (some (wrap64 (32 - t283))) = some r := H
  have A2 := Aside0.mk A20
  clear A20
  obtain rfl := Option.some.inj H
  go_enter Try.func126, Try.ntmps126
  go_wp2_with (first | ((with_reducible refine gate_callee (f := 125) rfl ?_); refine goesL_ (some 4) rfl rfl Try.func125 (by kernel_rfl) rfl #[.int .u32 a0] rfl (by (try simp only [List.map_toArray, List.map_cons, List.map_nil]); first | done | rfl | (simp only [List.length_drop, List.length_take]; rfl)) ?_; (with_reducible refine (bits_Len32.calls a0 t283 _ A2.out).mono ?_); rintro e w' ⟨rfl, ⟨nd, rfl⟩⟩; refine ⟨_, rfl, ?_⟩))
  go_ret
  exact ⟨by first | rfl | (simp; done) | (simp [*]; done), by repeat (first | exact Drawn0.refl _ | apply Drawn0.step)⟩
/-! ### nat_shift: function 127 -/
def nat_shift.l0 : Nat → List Int → Int → List Int → Int → List Int → Int → Int → Option (List Int)
  | 0, _, _, _, _, _, _, _ => none
  | k + 1, x0, x1, x5, x6, x14, x15, x16 => if x16 < x15 then (if 0 ≤ x16 then (if x16 < (x14.length : Int) then (if 0 ≤ x1 then (if x16 < (x5.length : Int) then (nat_shift.l0 k x0 x1 (x5.set (x16 : Int).toNat ((Go.bits .or .u64 (shl .u64 (IntKind.u64.wrap (rd x14 x16)) x1) x6) % 4294967296)) ((Go.bits .or .u64 (shl .u64 (IntKind.u64.wrap (rd x14 x16)) x1) x6) / 4294967296) x14 x15 (wrap64 (x16 + 1))) else (none)) else (none)) else (none)) else (none)) else (if 0 ≤ (x0.length : Int) then (if (x0.length : Int) < (x5.length : Int) then (some (x5.set ((x0.length : Int) : Int).toNat ((x6) % 4294967296))) else (none)) else (none))
def nat_shift.f (k : Nat) (l0 : List Int) (a1 : Int) : Option (List Int) := if 0 ≤ (wrap64 ((l0.length : Int) + 1)) then (if (wrap64 ((l0.length : Int) + 1) : Int).toNat ≤ 70368744177664 then (nat_shift.l0 k l0 a1 (List.replicate (wrap64 ((l0.length : Int) + 1) : Int).toNat 0) 0 l0 (l0.length : Int) 0) else (none)) else (none)
set_option maxHeartbeats 8000000 in
set_option maxRecDepth 100000 in
theorem nat_shift.calls (k : Nat) (A0 : Option Addr) (c0 : Nat) (l0 : List Int) (a1 : Int) (r : List Int) (w : World) (hr0 : Kd.C (Kd.int .u32) w A0 l0.length l0) (hc0 : l0.length ≤ c0) (h : nat_shift.f k l0 a1 = some r) :
    Calls Try.prog 127 #[.slice A0 l0.length c0, .int .i64 a1] w fun e w' => ∃ v0_ : Value, e = .returned (v0_) ∧ Kd.R (Kd.int .u32) 79 w' w.heap.size (fun _ => True) v0_ r ∧ Below w.heap.size w w' := by
  have HR0 := Aside0.mk hr0
  have HC0 := Aside0.mk hc0
  clear hr0 hc0
  have HB := Aside0.mk (Below.refl w.heap.size w)
  have H : (if 0 ≤ (wrap64 ((l0.length : Int) + 1)) then (if (wrap64 ((l0.length : Int) + 1) : Int).toNat ≤ 70368744177664 then (nat_shift.l0 k l0 a1 (List.replicate (wrap64 ((l0.length : Int) + 1) : Int).toNat 0) 0 l0 (l0.length : Int) 0) else (none)) else (none)) = some r := h
  clear h
  obtain ⟨ji3, hji3⟩ : ∃ j_ : Int, (wrap64 ((l0.length : Int) + 1)) = j_ := ⟨_, rfl⟩
  replace H : (if 0 ≤ (ji3) then (if (ji3 : Int).toNat ≤ 70368744177664 then (nat_shift.l0 k l0 a1 (List.replicate (ji3 : Int).toNat 0) 0 l0 (l0.length : Int) 0) else (none)) else (none)) = some r := by first | (rw [hji3] at H; exact H) | (simp only [hji3] at H ⊢; exact H)
  have hji3w : (IntKind.i64.wrap ((l0.length : Int) + 1)) = ji3 := (i64_w _).trans hji3
  by_cases c4 : 0 ≤ (ji3)
  · rw [if_pos c4] at H
    have c4b0 := eq_true c4
    have c4b1 : decide (0 ≤ (ji3)) = true := decide_eq_true c4
    clear c4
    by_cases c5 : (ji3 : Int).toNat ≤ 70368744177664
    · rw [if_pos c5] at H
      have c5b0 := eq_true c5
      have c5b1 : decide ((ji3 : Int).toNat ≤ 70368744177664) = true := decide_eq_true c5
      clear c5
      obtain ⟨y284, hy284⟩ : ∃ y_ : List Int, y_ = (List.replicate (ji3 : Int).toNat 0) := ⟨_, rfl⟩
      replace H : (nat_shift.l0 k l0 a1 y284 0 l0 (l0.length : Int) 0) = some r := by first | (rw [hy284]; with_reducible exact H) | (have H2_ := (Option.bind_some _ _).symm.trans H; rw [hy284]; with_reducible exact H2_) | (have H2_ := (Option.bind_some _ _).symm.trans H; with_reducible exact H2_) | with_reducible exact H | (rw [hy284]; exact H) | exact H
      have Ny284 := Aside0.mk hy284
      clear hy284
      have H' := Aside0.mk H
      clear H
      go_enter Try.func127, Try.ntmps127
      go_wp2_with (first | ((with_reducible refine gate_dst (N := 13) rfl ?_); refine Kd.R_make (Kd.int .u32) _ 79 rfl (N := 13) rfl 32 _ _ rfl ji3 rfl rfl Try.underlying32 (.int .u32 0) 4 info79 rfl (by decide) (by omega) 0 (ok := fun _ => True) (okp := fun _ => True) rfl (fun _ hk => hk) trivial (of_decide_eq_true (by first | (with_reducible assumption) | assumption)) (Nat.le_trans (Nat.mul_le_mul_right _ (of_decide_eq_true (by first | (with_reducible assumption) | assumption) : ji3.toNat ≤ 70368744177664)) (by omega)) (Below.refl _ _) (Nat.le_refl _) ?_; intro v285 w6 ho7 hb hg_ hnew_; clear hg_ hnew_; (first | rw [← Ny284.out] at ho7 | (simp only [Int.reduceToNat] at ho7; rw [← Ny284.out] at ho7)); have n0_ := Aside0.mk (Kd.R_lower ho7 (below_size (by repeat (first | (with_reducible first | exact HB.out | apply below_alloc | apply pw_below_drewN | apply below_drew1) | exact HB.out)))); have n1_ := Aside0.mk (below_step (by repeat (first | (with_reducible first | exact HB.out | apply below_alloc | apply pw_below_drewN | apply below_drew1) | exact HB.out)) hb); clear HB; have HO286 := n0_; have HB := n1_; clear n0_ n1_; clear hb ho7))
      go_loopg [6, 16] k (fun kq v6 v16 w' => ∃ (x5_1 : List Int) (x6_1 : Int) (x16_1 : Int), v6 = .int .u64 x6_1 ∧ v16 = .int .i64 x16_1 ∧ Aside0 (nat_shift.l0 kq l0 a1 x5_1 x6_1 l0 (l0.length : Int) x16_1 = some r) ∧ Aside0 (kq ≤ k) ∧ Aside0 (Kd.R (Kd.int .u32) 79 w' w.heap.size (fun _ => True) v285 x5_1) ∧ Aside0 (Below w.heap.size w w'))
      case atStart => exact ⟨(y284), (0), (0), (by first | rfl | (simp; done) | (simp [*]; done)), (by first | rfl | (simp; done) | (simp [*]; done)), H', ⟨Nat.le_refl _⟩, ⟨by (with_reducible repeat (first | apply Kd.R_alloc | apply Kd.R_drewN | apply Kd.R_drew)); exact HO286.out⟩, ⟨by repeat (first | (with_reducible first | exact HB.out | apply below_alloc | apply pw_below_drewN | apply below_drew1) | exact HB.out)⟩⟩
      case round =>
        clear H'
        try clear c1
        try clear p2
        try clear c4
        try clear c4b0
        try clear c4b1
        try clear c5
        try clear c5b0
        try clear c5b1
        try clear p6
        obtain ⟨x5_1, x6_1, x16_1, rfl, rfl, HA, HK1, HO_5, HB⟩ := hrel
        cases gk with
        | zero => exact absurd HA.out (by simp [nat_shift.l0])
        | succ k1 =>
          have H := HA.out
          clear HA
          simp only [nat_shift.l0] at H
          by_cases c8 : x16_1 < (l0.length : Int)
          · rw [if_pos c8] at H
            have c8b0 : decide (x16_1 < (l0.length : Int)) = true := decide_eq_true c8
            clear c8
            by_cases c9 : 0 ≤ x16_1
            · rw [if_pos c9] at H
              have c9b0 : decide (0 ≤ x16_1) = true := decide_eq_true c9
              clear c9
              by_cases c10 : x16_1 < (l0.length : Int)
              · rw [if_pos c10] at H
                have c10b0 : decide (x16_1 < (l0.length : Int)) = true := decide_eq_true c10
                clear c10
                by_cases c11 : 0 ≤ a1
                · rw [if_pos c11] at H
                  have c11b0 := eq_true c11
                  have c11b1 : decide (0 ≤ a1) = true := decide_eq_true c11
                  clear c11
                  obtain ⟨ji12, hji12⟩ : ∃ j_ : Int, (shl .u64 (IntKind.u64.wrap (rd l0 x16_1)) a1) = j_ := ⟨_, rfl⟩
                  replace H : (if x16_1 < (x5_1.length : Int) then (nat_shift.l0 k1 l0 a1 (x5_1.set (x16_1 : Int).toNat ((Go.bits .or .u64 (ji12) x6_1) % 4294967296)) ((Go.bits .or .u64 (ji12) x6_1) / 4294967296) l0 (l0.length : Int) (wrap64 (x16_1 + 1))) else (none)) = some r := by first | (rw [hji12] at H; exact H) | (simp only [hji12] at H ⊢; exact H)
                  have hji12_ : (IntKind.u64.wrap ((IntKind.u64.wrap (rd l0 x16_1)) * 2 ^ min a1.toNat 64)) = ji12 := hji12
                  have hji12z : a1 ≤ 64 → (IntKind.u64.wrap ((IntKind.u64.wrap (rd l0 x16_1)) * 2 ^ a1.toNat)) = ji12 := shl_small hji12
                  by_cases c13 : x16_1 < (x5_1.length : Int)
                  · rw [if_pos c13] at H
                    have c13b0 : decide (x16_1 < (x5_1.length : Int)) = true := decide_eq_true c13
                    clear c13
                    obtain ⟨y288, hy288⟩ : ∃ y_ : List Int, y_ = (x5_1.set (x16_1 : Int).toNat ((Go.bits .or .u64 (ji12) x6_1) % 4294967296)) := ⟨_, rfl⟩
                    replace H : (nat_shift.l0 k1 l0 a1 y288 ((Go.bits .or .u64 (ji12) x6_1) / 4294967296) l0 (l0.length : Int) (wrap64 (x16_1 + 1))) = some r := by first | (rw [hy288]; with_reducible exact H) | (have H2_ := (Option.bind_some _ _).symm.trans H; rw [hy288]; with_reducible exact H2_) | (have H2_ := (Option.bind_some _ _).symm.trans H; with_reducible exact H2_) | with_reducible exact H | (rw [hy288]; exact H) | exact H
                    have Ny288 := Aside0.mk hy288
                    clear hy288
                    have H' := Aside0.mk H
                    clear H
                    have p287 : 0 ≤ (x16_1 : Int) := of_decide_eq_true (by first | (with_reducible assumption) | assumption)
                    have q287 : x16_1 < (l0.length : Int) := of_decide_eq_true (by first | (with_reducible assumption) | assumption)
                    obtain ⟨ad287, e287, hx287_0⟩ := Kd.at_int HR0.out x16_1 p287 q287
                    cases e287
                    replace hx287_0 := (HB.out.cell (World.block_lt_of_cell? w _ hx287_0)).trans hx287_0
                    replace p287 := eq_true p287
                    replace q287 := eq_true q287
                    have p14 : 0 ≤ (x16_1 : Int) := of_decide_eq_true (by first | (with_reducible assumption) | assumption)
                    have q14 : (x16_1 : Int) < ((x5_1.length : Int) : Int) := of_decide_eq_true (by first | (with_reducible assumption) | assumption)
                    obtain ⟨go14, co14, eo14, gb14, gl14, cl14, HG14⟩ := Kd.R_form HO_5.out (by omega)
                    (first | cases eo14 | (injection eo14 with ea_ en_ ec_; (first | subst ea_ | (injection ea_ with ea_; subst ea_)); subst ec_; clear en_))
                    have GB14 := Aside0.mk gb14
                    have GG14 := Aside0.mk HG14
                    clear gb14 gl14 HG14
                    obtain ⟨hx14_0, hf14_0⟩ := Kd.R_celln 0 HO_5.out (x16_1 : Int) p14 q14
                    replace p14 := eq_true p14
                    replace q14 := eq_true q14
                    have HP15 := Kd.R_putg HO_5.out (x16_1 : Int) ((Go.bits .or .u64 (ji12) x6_1) % 4294967296)
                    go_wp2_with (first | ((with_reducible refine gate_store (t := 79) (p := 31) rfl ?_); refine store_event (t := 79) (p := 31) (v := ?vo_w16) (w1 := (wr.setCell ⟨go14, (x16_1 : Int).toNat, none⟩ (.int .u32 ((Go.bits .or .u64 (ji12) x6_1) % 4294967296)))) ?hg ?ho ?hn ?hr ?_; (case ho => rfl); (case hg => rfl); (case hn => rfl); (case hr => first | (go_simp; done) | (go_simp; rfl)); intro w16 hw; have hg : wr.grownBy w16 (some go14) := (by rw [hw]; exact HP15.2); have hp_ : Kd.R (Kd.int .u32) 79 w16 w.heap.size (fun _ => True) (.slice (some ⟨go14, 0, none⟩) x5_1.length co14) y288 := (by rw [hw, Ny288.out]; exact HP15.1); clear HP15; have n0_ := Aside0.mk (hp_); have n1_ := Aside0.mk ((by rw [hw]; exact below_set (HB.out) GB14.out : Below w.heap.size w w16)); clear HO_5; clear HB; have HO_5 := n0_; have HB := n1_; clear n0_ n1_; clear hg hw hp_))
                    go_roundg k1
                    case measure => have := HK1.out; omega
                    case rel => exact ⟨(y288), ((Go.bits .or .u64 (ji12) x6_1) / 4294967296), (wrap64 (x16_1 + 1)), (by first | rfl | (simp; done) | (simp only [← hji12] <;> (first | rfl | simp)) | (simp [*]; done)), (by first | rfl | (simp; done) | (simp [*]; done)), H', ⟨by have := HK1.out; omega⟩, ⟨by (with_reducible repeat (first | apply Kd.R_alloc | apply Kd.R_drewN | apply Kd.R_drew)); exact HO_5.out⟩, ⟨by repeat (first | (with_reducible first | exact HB.out | apply below_alloc | apply pw_below_drewN | apply below_drew1) | exact HB.out)⟩⟩
                  · rw [if_neg c13] at H
                    exact absurd H (by simp)
                · rw [if_neg c11] at H
                  exact absurd H (by simp)
              · rw [if_neg c10] at H
                exact absurd H (by simp)
            · rw [if_neg c9] at H
              exact absurd H (by simp)
          · rw [if_neg c8] at H
            have c8b0 : decide (x16_1 < (l0.length : Int)) = false := decide_eq_false c8
            clear c8
            by_cases c17 : 0 ≤ (l0.length : Int)
            · rw [if_pos c17] at H
              have c17b0 : decide (0 ≤ (l0.length : Int)) = true := decide_eq_true c17
              have c17b1 : decide (0 ≤ l0.length) = true := decide_eq_true (by omega)
              clear c17
              by_cases c18 : (l0.length : Int) < (x5_1.length : Int)
              · rw [if_pos c18] at H
                have c18b0 : decide ((l0.length : Int) < (x5_1.length : Int)) = true := decide_eq_true c18
                have c18b1 : decide (l0.length < x5_1.length) = true := decide_eq_true (Int.ofNat_lt.mp c18)
                clear c18
                obtain ⟨y289, hy289⟩ : ∃ y_ : List Int, y_ = (x5_1.set ((l0.length : Int) : Int).toNat ((x6_1) % 4294967296)) := ⟨_, rfl⟩
                replace H : (some y289) = some r := by first | (rw [hy289]; with_reducible exact H) | (have H2_ := (Option.bind_some _ _).symm.trans H; rw [hy289]; with_reducible exact H2_) | (have H2_ := (Option.bind_some _ _).symm.trans H; with_reducible exact H2_) | with_reducible exact H | (rw [hy289]; exact H) | exact H
                have Ny289 := Aside0.mk hy289
                clear hy289
                obtain rfl := Option.some.inj H
                have p19 : 0 ≤ ((l0.length : Int) : Int) := of_decide_eq_true (by first | (with_reducible assumption) | assumption)
                have q19 : ((l0.length : Int) : Int) < ((x5_1.length : Int) : Int) := of_decide_eq_true (by first | (with_reducible assumption) | assumption)
                obtain ⟨go19, co19, eo19, gb19, gl19, cl19, HG19⟩ := Kd.R_form HO_5.out (by omega)
                (first | cases eo19 | (injection eo19 with ea_ en_ ec_; (first | subst ea_ | (injection ea_ with ea_; subst ea_)); subst ec_; clear en_))
                have GB19 := Aside0.mk gb19
                have GG19 := Aside0.mk HG19
                clear gb19 gl19 HG19
                obtain ⟨hx19_0, hf19_0⟩ := Kd.R_celln 0 HO_5.out ((l0.length : Int) : Int) p19 q19
                (try simp only [Int.toNat_natCast] at hx19_0 hf19_0)
                replace p19 := eq_true p19
                replace q19 := eq_true q19
                have HP20 := Kd.R_putg HO_5.out ((l0.length : Int) : Int) ((x6_1) % 4294967296)
                go_wp2_with (first | ((with_reducible refine gate_store (t := 79) (p := 40) rfl ?_); refine store_event (t := 79) (p := 40) (v := ?vo_w21) (w1 := (wr.setCell ⟨go19, ((l0.length : Int) : Int).toNat, none⟩ (.int .u32 ((x6_1) % 4294967296)))) ?hg ?ho ?hn ?hr ?_; (case ho => rfl); (case hg => rfl); (case hn => rfl); (case hr => first | (go_simp; done) | (go_simp; rfl)); intro w21 hw; have hg : wr.grownBy w21 (some go19) := (by rw [hw]; exact HP20.2); have hp_ : Kd.R (Kd.int .u32) 79 w21 w.heap.size (fun _ => True) (.slice (some ⟨go19, 0, none⟩) x5_1.length co19) y289 := (by rw [hw, Ny289.out]; exact HP20.1); clear HP20; have n0_ := Aside0.mk (hp_); have n1_ := Aside0.mk ((by rw [hw]; exact below_set (HB.out) GB19.out : Below w.heap.size w w21)); clear HO_5; clear HB; have HO_5 := n0_; have HB := n1_; clear n0_ n1_; clear hg hw hp_))
                go_ret
                exact ⟨_, by first | rfl | (simp [errW_none, errW_some] <;> rfl) | (simp only [← hji3]; first | rfl | (simp [errW_none, errW_some] <;> rfl)) | (simp [*, errW_none, errW_some] <;> rfl), by (with_reducible repeat (first | apply Kd.R_alloc | apply Kd.R_drewN | apply Kd.R_drew)); exact HO_5.out, by repeat (first | (with_reducible first | exact HB.out | apply below_alloc | apply pw_below_drewN | apply below_drew1) | exact HB.out)⟩
              · rw [if_neg c18] at H
                exact absurd H (by simp)
            · rw [if_neg c17] at H
              exact absurd H (by simp)
    · rw [if_neg c5] at H
      exact absurd H (by simp)
  · rw [if_neg c4] at H
    exact absurd H (by simp)
end Go.Proofs.Ytjignpnnmfdedaa.PBoundsWords
