/- A part of the print of this row, cut down to what the row uses. -/
import Derived.Test.YtjignpnnmfdedaaQChannelPatternsx0
import Derived.Test.YtjignpnnmfdedaaQChannelPatternsx1
import Derived.Test.YtjignpnnmfdedaaQChannelPatternsx2
import Derived.Test.YtjignpnnmfdedaaQChannelPatternsx5
import Derived.Test.YtjignpnnmfdedaaQChannelPatternsWSq
-- printed by a scratch copy of the print, turned (wip/tools/turn_print.py)
namespace Go.Proofs.Ytjignpnnmfdedaa.PChannelPatterns
open Go.RowKit Go.Proofs.YtjignpnnmfdedaaW.PrintWords Go.Proofs.YtjignpnnmfdedaaW.PrintLast Go.Proofs.YtjignpnnmfdedaaW.PrintMore
attribute [local go_sem] max2_int min2_int max_two min_two max_three min_three max_four min_four   -- for this text's walks alone
set_option linter.unusedVariables false
set_option linter.unusedSimpArgs false
/-! ### nat_Gcd: function 122 -/
def nat_Gcd.l0 : Nat → List Int → List Int → Option (List Int)
 | 0, _, _ => none
 | k + 1, x0, x1 => if (x1.length : Int) > 0 then ((nat_DivMod.f k x0 x1).bind fun bt293 => (nat_Gcd.l0 k x1 bt293.2.1)) else ((nat_Trim.f k x0).bind fun t300 => (some t300))
def nat_Gcd.f (k : Nat) (l0 : List Int) (l1 : List Int) : Option (List Int) := (nat_short.f k l0).bind fun t287 => ((nat_short.f k l1).bind fun t290 => (nat_Gcd.l0 k t287 t290))
set_option maxHeartbeats 8000000 in
set_option maxRecDepth 100000 in
theorem nat_Gcd.calls (k : Nat) (A0 : Option Addr) (c0 : Nat) (l0 : List Int) (A1 : Option Addr) (c1 : Nat) (l1 : List Int) (r : List Int) (w : World) (hr0 : Kd.C (Kd.int .u32) w A0 l0.length l0) (hc0 : l0.length ≤ c0) (hr1 : Kd.C (Kd.int .u32) w A1 l1.length l1) (hc1 : l1.length ≤ c1) (h : nat_Gcd.f k l0 l1 = some r) :
  Calls Try.prog 122 #[.slice A0 l0.length c0, .slice A1 l1.length c1] w fun e w' => ∃ v0_ : Value, e = .returned (v0_) ∧ Kd.R (Kd.int .u32) 79 w' w.heap.size (fun _ => True) v0_ r ∧ Below w.heap.size w w' := by
 have HR0 := zA hr0
 have HC0 := zA hc0
 clear hr0 hc0
 have HR1 := zA hr1
 have HC1 := zA hc1
 clear hr1 hc1
 have HB := zA (Below.refl w.heap.size w)
 have H : ((nat_short.f k l0).bind fun t287 => ((nat_short.f k l1).bind fun t290 => (nat_Gcd.l0 k t287 t290))) = some r := h
 clear h
 replace H := Option.bind_eq_some_iff.mp H
 obtain ⟨t287, A30, H⟩ := H
 replace H : ((nat_short.f k l1).bind fun t290 => (nat_Gcd.l0 k t287 t290)) = some r := H
 have A3 := zA A30
 clear A30
 replace H := Option.bind_eq_some_iff.mp H
 obtain ⟨t290, A40, H⟩ := H
 replace H : (nat_Gcd.l0 k t287 t290) = some r := H
 have A4 := zA A40
 clear A40
 have H' := zA H
 clear H
 go_enter Try.func122, Try.ntmps122
 go_wp2_with (first | ((with_reducible refine gate_callee (f := 104) rfl ?_); refine goesL_ (some 9) rfl rfl Try.func104 (by kernel_rfl) rfl #[.slice A0 l0.length c0] rfl (by (try simp only [List.map_toArray, List.map_cons, List.map_nil]); first | done | rfl | (simp only [List.length_drop, List.length_take]; rfl)) ?_; (with_reducible refine (nat_short.calls k (fun k_ => k_ < w.heap.size) _ _ l0 t287 _ ?side1 A3.out).mono ?_); (case side1 => exact Kd.V_mk HC0.out (Kd.F_below (Kd.C_F (Kd.heap_int .u32) HR0.out) (by exact zB HB))); rintro e w5 ⟨v288, rfl, ho0, hb⟩; refine ⟨_, rfl, ?_⟩; have HO289 := zA (Kd.V_lower (Kd.V_mono (ok' := fun k_ => True) ho0 (fun k_ hk_ => trivial)) (below_size (by exact zB HB))); replace HB := zA (below_step (by exact zB HB) hb); (try clear hb ho0)) | ((with_reducible refine gate_callee (f := 104) rfl ?_); refine goesL_ (some 11) rfl rfl Try.func104 (by kernel_rfl) rfl #[.slice A1 l1.length c1] rfl (by (try simp only [List.map_toArray, List.map_cons, List.map_nil]); first | done | rfl | (simp only [List.length_drop, List.length_take]; rfl)) ?_; (with_reducible refine (nat_short.calls k (fun k_ => k_ < w.heap.size) _ _ l1 t290 _ ?side1 A4.out).mono ?_); (case side1 => exact Kd.V_mk HC1.out (Kd.F_below (Kd.C_F (Kd.heap_int .u32) HR1.out) (by exact zB HB))); rintro e w6 ⟨v291, rfl, ho0, hb⟩; refine ⟨_, rfl, ?_⟩; replace HO289 := zA (Kd.V_below (by exact zV HO289) hb); have HO292 := zA (Kd.V_lower (Kd.V_mono (ok' := fun k_ => True) ho0 (fun k_ hk_ => trivial)) (below_size (by exact zB HB))); replace HB := zA (below_step (by exact zB HB) hb); (try clear hb ho0)))
 go_loopg [0, 1] k (fun kq v0 v1 w' => ∃ (x0_1 : List Int) (x1_1 : List Int), Aside0 (nat_Gcd.l0 kq x0_1 x1_1 = some r) ∧ Aside0 (kq ≤ k) ∧ Aside0 (Kd.V (Kd.int .u32) 79 w' w.heap.size (fun _ => True) v0 x0_1) ∧ Aside0 (Kd.V (Kd.int .u32) 79 w' w.heap.size (fun _ => True) v1 x1_1) ∧ Aside0 (Below w.heap.size w w'))
 case atStart => exact ⟨(t287), (t290), H', ⟨Nat.le_refl _⟩, ⟨by exact zV HO289⟩, ⟨by exact zV HO292⟩, ⟨by exact zB HB⟩⟩
 case round =>
  clear H'
  try clear c1
  try clear p2
  obtain ⟨x0_1, x1_1, HA, HK1, HO_0, HO_1, HB⟩ := hrel
  cases gk with
  | zero => exact absurd HA.out (by simp [nat_Gcd.l0])
  | succ k1 =>
   have H := HA.out
   clear HA
   simp only [nat_Gcd.l0] at H
   by_cases c7 : (x1_1.length : Int) > 0
   ·
    rw [if_pos c7] at H
    have c7b0 : decide (0 < (x1_1.length : Int)) = true := decide_eq_true c7
    have c7b1 : decide (0 < x1_1.length) = true := decide_eq_true (by omega)
    clear c7
    replace H := Option.bind_eq_some_iff.mp H
    obtain ⟨⟨t293, t296, t299⟩, A80, H⟩ := H
    replace H : (nat_Gcd.l0 k1 x1_1 t296) = some r := H
    have A8 := zA A80
    clear A80
    have H' := zA H
    clear H
    obtain ⟨Ao9, co9, eo9⟩ := Kd.V_slice HO_1.out
    subst eo9
    obtain ⟨Ao10, co10, eo10⟩ := Kd.V_slice HO_0.out
    subst eo10
    go_wp2_with (first | ((with_reducible refine gate_callee (f := 102) rfl ?_); refine goesL_ (some 18) rfl rfl Try.func102 (by kernel_rfl) rfl #[.slice Ao10 x0_1.length co10, .slice Ao9 x1_1.length co9] rfl (by (try simp only [List.map_toArray, List.map_cons, List.map_nil]); first | done | rfl | (simp only [List.length_drop, List.length_take]; rfl)) ?_; (with_reducible refine (nat_DivMod.calls k1 (fun k_ => True) _ _ x0_1 (fun k_ => True) _ _ x1_1 t293 t296 t299 _ ?side1 ?side2 A8.out).mono ?_); (case side1 => exact HO_0.out); (case side2 => exact HO_1.out); rintro e w11 ⟨v294, v297, rfl, ho0, ho1, hb⟩; refine ⟨_, rfl, ?_⟩; replace HO_0 := zA (Kd.V_elder' (by exact zV HO_0) (Kd.R_base ho1) hb); replace HO_1 := zA (Kd.V_elder' (by exact zV HO_1) (Kd.R_base ho1) hb); have HO295 := zA (Kd.V_lower (Kd.V_mono (ok' := fun k_ => some k_ ≠ (v297 : Value).ownBlock) ho0 (fun k_ hk_ => hk_.2)) (below_size (by exact zB HB))); have HO298 := zA (Kd.R_lower (Kd.R_mono (ok' := fun k_ => True) ho1 (fun _ hk_ => trivial)) (below_size (by exact zB HB))); replace HB := zA (below_step (by exact zB HB) hb); (try clear hb ho0 ho1)))
    go_roundg k1
    case measure => have := HK1.out; omega
    case rel => exact ⟨(x1_1), (t296), H', ⟨by have := HK1.out; omega⟩, ⟨by (with_reducible repeat (first | apply Kd.V_alloc | apply Kd.V_drewN | apply Kd.V_drew)); exact Kd.V_mono HO_1.out (fun _ hk => trivial)⟩, ⟨Kd.R_V (by exact zR HO298)⟩, ⟨by exact zB HB⟩⟩
   ·
    rw [if_neg c7] at H
    have c7b0 : decide (0 < (x1_1.length : Int)) = false := decide_eq_false c7
    have c7b1 : decide (0 < x1_1.length) = false := decide_eq_false (by omega)
    clear c7
    replace H := Option.bind_eq_some_iff.mp H
    obtain ⟨t300, A120, H⟩ := H
    replace H : (some t300) = some r := H
    have A12 := zA A120
    clear A120
    obtain rfl := Option.some.inj H
    obtain ⟨Ao13, co13, eo13⟩ := Kd.V_slice HO_1.out
    subst eo13
    obtain ⟨Ao14, co14, eo14⟩ := Kd.V_slice HO_0.out
    subst eo14
    go_wp2_with (first | ((with_reducible refine gate_callee (f := 105) rfl ?_); refine goesL_ (some 25) rfl rfl Try.func105 (by kernel_rfl) rfl #[.slice Ao14 x0_1.length co14] rfl (by (try simp only [List.map_toArray, List.map_cons, List.map_nil]); first | done | rfl | (simp only [List.length_drop, List.length_take]; rfl)) ?_; (with_reducible refine (nat_Trim.calls k1 _ _ x0_1 t300 _ ?side1 ?side2 A12.out).mono ?_); (case side1 => exact zC ((Kd.V_reads' HO_0.out).2.2)); (case side2 => exact (Kd.V_reads' HO_0.out).2.1); rintro e w15 ⟨v301, rfl, ho0, hb⟩; refine ⟨_, rfl, ?_⟩; replace HO_0 := zA (Kd.V_elder' (by exact zV HO_0) (Kd.R_base ho0) hb); replace HO_1 := zA (Kd.V_elder' (by exact zV HO_1) (Kd.R_base ho0) hb); have HO302 := zA (Kd.R_lower ho0 (below_size (by exact zB HB))); replace HB := zA (below_step (by exact zB HB) hb); (try clear hb ho0)))
    go_ret
    exact ⟨_, by first | rfl | (simp [errW_none, errW_some] <;> rfl) | (simp [*, errW_none, errW_some] <;> rfl), by exact zR HO302, by exact zB HB⟩
/-! ### rational_canonical: function 111 -/
def rational_canonical.j0 : Nat → Bool → List Int → List Int → Bool → Option (Bool × List Int × List Int)
 | 0, _, _, _, _ => none
 | k + 1, x0, x1, x2, x15 => if x15 = true then ((rational_one.f).bind fun t306 => (some (false, ([] : List Int), t306))) else ((nat_Gcd.f k x1 x2).bind fun t309 => ((nat_DivMod.f k x1 t309).bind fun bt312 => ((nat_DivMod.f k x2 t309).bind fun bt319 => (some (x0, bt312.1, bt319.1)))))
def rational_canonical.f (k : Nat) (a0 : Bool) (l1 : List Int) (l2 : List Int) : Option (Bool × List Int × List Int) := (nat_Bits.f k l1).bind fun t304 => (if t304 = 0 then (rational_canonical.j0 k a0 l1 l2 true) else ((nat_Bits.f k l2).bind fun t305 => (rational_canonical.j0 k a0 l1 l2 (t305 == 0))))
set_option maxHeartbeats 8000000 in
set_option maxRecDepth 100000 in
theorem rational_canonical.calls (k : Nat) (a0 : Bool) (P1_ : Nat → Prop) (A1 : Option Addr) (c1 : Nat) (l1 : List Int) (P2_ : Nat → Prop) (A2 : Option Addr) (c2 : Nat) (l2 : List Int) (r1 : Bool) (r2 : List Int) (r3 : List Int) (w : World) (hs1 : Kd.V (Kd.int .u32) 79 w w.heap.size (fun k_ => P1_ k_) (.slice A1 l1.length c1) l1) (hs2 : Kd.V (Kd.int .u32) 79 w w.heap.size (fun k_ => P2_ k_) (.slice A2 l2.length c2) l2) (h : rational_canonical.f k a0 l1 l2 = some (r1, r2, r3)) :
  Calls Try.prog 111 #[.bool a0, .slice A1 l1.length c1, .slice A2 l2.length c2] w fun e w' => ∃ v1_ v2_ : Value, e = .returned (.agg #[.bool r1, v1_, v2_]) ∧ Kd.V (Kd.int .u32) 79 w' w.heap.size (fun k_ => ((P1_ k_ ∨ P2_ k_) ∨ w.heap.size ≤ k_)) v1_ r2 ∧ Kd.V (Kd.int .u32) 79 w' w.heap.size (fun k_ => ((P1_ k_ ∨ P2_ k_) ∨ w.heap.size ≤ k_)) v2_ r3 ∧ Below w.heap.size w w' := by
 have hu52 := Try.underlying52
 have HO1 := zA (show Kd.V (Kd.int .u32) 79 w w.heap.size (fun k_ => ((P1_ k_ ∨ P2_ k_) ∨ w.heap.size ≤ k_)) (.slice A1 l1.length c1) l1 from Kd.V_mono hs1 (fun k_ hk => .inl (.inl hk)))
 have HO2 := zA (show Kd.V (Kd.int .u32) 79 w w.heap.size (fun k_ => ((P1_ k_ ∨ P2_ k_) ∨ w.heap.size ≤ k_)) (.slice A2 l2.length c2) l2 from Kd.V_mono hs2 (fun k_ hk => .inl (.inr hk)))
 have HB := zA (Below.refl w.heap.size w)
 have H : ((nat_Bits.f k l1).bind fun t304 => (if t304 = 0 then (rational_canonical.j0 k a0 l1 l2 true) else ((nat_Bits.f k l2).bind fun t305 => (rational_canonical.j0 k a0 l1 l2 (t305 == 0))))) = some (r1, r2, r3) := h
 clear h
 have HC4 := zA H
 clear H
 go_enter Try.func111, Try.ntmps111
 go_upto_region 1 with (first | ((with_reducible refine gate_dst (N := 6) rfl ?_); refine box_event ?hg (N := 6) ?hd (cs := #[.bool false, .slice none 0 0, .slice none 0 0]) (t := 52) ?hr ?_; (case hd => rfl); (case hg => rfl); (case hr => first | (go_simp; done) | (go_simp; rfl)); intro gb303 hg w5 hbox hb; replace HO1 := zA (Kd.V_below (Kd.V_elderB (by exact zV HO1) gb303 (Nat.le_of_eq hg.symm)) hb); replace HO2 := zA (Kd.V_below (Kd.V_elderB (by exact zV HO2) gb303 (Nat.le_of_eq hg.symm)) hb); have BK303 := zA (hbox); have GW303 := zA ((by rw [hg]; exact (below_size (by exact zB HB)) : w.heap.size ≤ gb303)); have GE303 := zA ((by rw [hg]; exact (below_size (by exact zB HB)) : w.heap.size ≤ gb303)); replace HB := zA (below_step (by exact zB HB) hb); clear hb hbox hg))
 (try simp only [Act.put, List.setIfInBounds_toArray, List.set_cons_zero, List.set_cons_succ])
 go_cut [15] (fun v15 wc => ∃ (kq : Nat) (x15_3 : Bool), v15 = .bool x15_3 ∧ Aside0 (rational_canonical.j0 kq a0 l1 l2 x15_3 = some (r1, r2, r3)) ∧ Aside0 (kq ≤ k) ∧ Aside0 (Kd.V (Kd.int .u32) 79 wc w.heap.size (fun k_ => ((P1_ k_ ∨ P2_ k_) ∨ w.heap.size ≤ k_) ∧ k_ ≠ gb303) (.slice A1 l1.length c1) l1) ∧ Aside0 (Kd.V (Kd.int .u32) 79 wc w.heap.size (fun k_ => ((P1_ k_ ∨ P2_ k_) ∨ w.heap.size ≤ k_) ∧ k_ ≠ gb303) (.slice A2 l2.length c2) l2) ∧ Aside0 (wc.heap[gb303]? = some (.cells #[.bool false, (.slice none 0 0), (.slice none 0 0)] 52 (0, 0))) ∧ Aside0 (Below w.heap.size w wc))
 case first =>
  have H := HC4.out
  clear HC4
  replace H := Option.bind_eq_some_iff.mp H
  obtain ⟨t304, A60, H⟩ := H
  replace H : (if t304 = 0 then (rational_canonical.j0 k a0 l1 l2 true) else ((nat_Bits.f k l2).bind fun t305 => (rational_canonical.j0 k a0 l1 l2 (t305 == 0)))) = some (r1, r2, r3) := H
  have A6 := zA A60
  clear A60
  by_cases c7 : t304 = 0
  ·
   rw [if_pos c7] at H
   have c7b0 : (t304 == 0) = true := beq_iff_eq.mpr c7
   have c7b1 : (t304 != 0) = false := bne_eq_false_iff_eq.mpr c7
   clear c7
   (first | rw [c7b0] | (simp only [i64_w, i32_w]; rw [c7b0]) | rw [c7b1] | rw [c7b2] | skip)
   have H' := zA H
   clear H
   go_wp2_with (first | ((with_reducible refine gate_callee (f := 117) rfl ?_); refine goesL_ (some 9) rfl rfl Try.func117 (by kernel_rfl) rfl #[.slice A1 l1.length c1] rfl (by (try simp only [List.map_toArray, List.map_cons, List.map_nil]); first | done | rfl | (simp only [List.length_drop, List.length_take]; rfl)) ?_; (with_reducible refine (nat_Bits.calls k _ _ l1 t304 _ ?side1 ?side2 A6.out).mono ?_); (case side1 => exact zC ((Kd.V_reads' HO1.out).2.2)); (case side2 => exact (Kd.V_reads' HO1.out).2.1); rintro e w8 ⟨rfl, hb⟩; refine ⟨_, rfl, ?_⟩; replace HO1 := zA (Kd.V_below (by exact zV HO1) hb); replace HO2 := zA (Kd.V_below (by exact zV HO2) hb); replace BK303 := zA (blk_below (g := gb303) (o := .cells #[.bool false, .slice none 0 0, .slice none 0 0] 52 (0, 0)) (by exact zK BK303) hb); replace HB := zA (below_step (by repeat (first | (with_reducible first | exact HB.out | apply below_alloc | apply pw_below_drewN | apply below_drew1 | refine below_set ?_ GE303.out) | exact HB.out)) hb); (try clear hb)))
   go_meet
   case rel => exact ⟨_, (true), (by first | rfl | (simp; done) | (simp [*]; done)), H', ⟨by first | omega | exact Nat.le_refl _⟩, ⟨by exact zV HO1⟩, ⟨by exact zV HO2⟩, ⟨by exact zK BK303⟩, ⟨by repeat (first | (with_reducible first | exact HB.out | apply below_alloc | apply pw_below_drewN | apply below_drew1 | refine below_set ?_ GE303.out) | exact HB.out)⟩⟩
  ·
   rw [if_neg c7] at H
   have c7b0 : (t304 == 0) = false := beq_eq_false_iff_ne.mpr c7
   have c7b1 : (t304 != 0) = true := bne_iff_ne.mpr c7
   (first | rw [c7b0] | (simp only [i64_w, i32_w]; rw [c7b0]) | rw [c7b1] | rw [c7b2] | skip)
   replace H := Option.bind_eq_some_iff.mp H
   obtain ⟨t305, A90, H⟩ := H
   replace H : (rational_canonical.j0 k a0 l1 l2 (t305 == 0)) = some (r1, r2, r3) := H
   have A9 := zA A90
   clear A90
   have H' := zA H
   clear H
   go_wp2_with (first | ((with_reducible refine gate_callee (f := 117) rfl ?_); refine goesL_ (some 9) rfl rfl Try.func117 (by kernel_rfl) rfl #[.slice A1 l1.length c1] rfl (by (try simp only [List.map_toArray, List.map_cons, List.map_nil]); first | done | rfl | (simp only [List.length_drop, List.length_take]; rfl)) ?_; (with_reducible refine (nat_Bits.calls k _ _ l1 t304 _ ?side1 ?side2 A6.out).mono ?_); (case side1 => exact zC ((Kd.V_reads' HO1.out).2.2)); (case side2 => exact (Kd.V_reads' HO1.out).2.1); rintro e w10 ⟨rfl, hb⟩; refine ⟨_, rfl, ?_⟩; replace HO1 := zA (Kd.V_below (by exact zV HO1) hb); replace HO2 := zA (Kd.V_below (by exact zV HO2) hb); replace BK303 := zA (blk_below (g := gb303) (o := .cells #[.bool false, .slice none 0 0, .slice none 0 0] 52 (0, 0)) (by exact zK BK303) hb); replace HB := zA (below_step (by repeat (first | (with_reducible first | exact HB.out | apply below_alloc | apply pw_below_drewN | apply below_drew1 | refine below_set ?_ GE303.out) | exact HB.out)) hb); (try clear hb)) | (go_at_call 117; (with_reducible refine (nat_Bits.calls k _ _ l2 t305 _ ?side1 ?side2 A9.out).mono ?_); (case side1 => exact zC ((Kd.V_reads' HO2.out).2.2)); (case side2 => exact (Kd.V_reads' HO2.out).2.1); rintro e w11 ⟨rfl, hb⟩; replace HO1 := zA (Kd.V_below (by exact zV HO1) hb); replace HO2 := zA (Kd.V_below (by exact zV HO2) hb); replace BK303 := zA (blk_below (g := gb303) (o := .cells #[.bool false, .slice none 0 0, .slice none 0 0] 52 (0, 0)) (by exact zK BK303) hb); replace HB := zA (below_step (by repeat (first | (with_reducible first | exact HB.out | apply below_alloc | apply pw_below_drewN | apply below_drew1 | refine below_set ?_ GE303.out) | exact HB.out)) hb); (try clear hb)))
   go_meet
   case rel => exact ⟨_, ((t305 == 0)), (by first | rfl | (simp; done) | (simp [*]; done)), H', ⟨by first | omega | exact Nat.le_refl _⟩, ⟨by exact zV HO1⟩, ⟨by exact zV HO2⟩, ⟨by exact zK BK303⟩, ⟨by repeat (first | (with_reducible first | exact HB.out | apply below_alloc | apply pw_below_drewN | apply below_drew1 | refine below_set ?_ GE303.out) | exact HB.out)⟩⟩
 case rest =>
  clear HC4
  try clear c1
  try clear c2
  try clear p2
  try clear c7
  try clear c7b0
  try clear c7b1
  try clear c11
  obtain ⟨kq, x15_3, rfl, HA, HJ3, HO_1, HO_2, BK303, HB⟩ := hcut
  cases kq with
  | zero => exact absurd HA.out (by simp [rational_canonical.j0])
  | succ kj3 =>
   have H := HA.out
   clear HA
   simp only [rational_canonical.j0] at H
   by_cases c12 : x15_3 = true
   ·
    subst c12
    have H1 : ((rational_one.f).bind fun t306 => (some (false, ([] : List Int), t306))) = some (r1, r2, r3) := by rw [if_pos rfl] at H; exact H
    clear H
    have H := H1
    clear H1
    replace H := Option.bind_eq_some_iff.mp H
    obtain ⟨t306, A130, H⟩ := H
    replace H : (some (false, ([] : List Int), t306)) = some (r1, r2, r3) := H
    have A13 := zA A130
    clear A130
    simp only [Option.some.injEq, Prod.mk.injEq] at H
    obtain ⟨rfl, rfl, rfl⟩ := H
    go_wp2_with (first | ((with_reducible refine gate_callee (f := 108) rfl ?_); refine goesL_ (some 16) rfl rfl Try.func108 (by kernel_rfl) rfl #[] rfl (by (try simp only [List.map_toArray, List.map_cons, List.map_nil]); first | done | rfl | (simp only [List.length_drop, List.length_take]; rfl)) ?_; (with_reducible refine (rational_one.calls  t306 _ A13.out).mono ?_); rintro e w14 ⟨v307, rfl, ho0, hb⟩; refine ⟨_, rfl, ?_⟩; replace HO_1 := zA (Kd.V_elder' (by exact zV HO_1) (Kd.R_base ho0) hb); replace HO_2 := zA (Kd.V_elder' (by exact zV HO_2) (Kd.R_base ho0) hb); have HO308 := zA (Kd.R_lower (Kd.R_newM (M := fun k_ => (w.heap.size ≤ k_)) ho0 (below_size (by repeat (first | (with_reducible first | exact HB.out | apply below_alloc | apply pw_below_drewN | apply below_drew1 | refine below_set ?_ GE303.out) | exact HB.out))) (fun k_ h_ => h_)) (below_size (by repeat (first | (with_reducible first | exact HB.out | apply below_alloc | apply pw_below_drewN | apply below_drew1 | refine below_set ?_ GE303.out) | exact HB.out)))); replace BK303 := zA (blk_below (g := gb303) (o := .cells #[.bool false, .slice none 0 0, .slice none 0 0] 52 (0, 0)) (by exact zK BK303) hb); replace HB := zA (below_step (by repeat (first | (with_reducible first | exact HB.out | apply below_alloc | apply pw_below_drewN | apply below_drew1 | refine below_set ?_ GE303.out) | exact HB.out)) hb); (try clear hb ho0); obtain ⟨Ao15, co15, eo15⟩ := Kd.R_slice HO308.out; subst eo15; have hcz16_0 : w14.cell? ⟨gb303, 0, none⟩ = some (.bool false) := (blk_cell BK303.out 0).trans rfl; have hcz16_1 : w14.cell? ⟨gb303, 1, none⟩ = some (.slice none 0 0) := (blk_cell BK303.out 1).trans rfl; have hcz16_2 : w14.cell? ⟨gb303, 2, none⟩ = some (.slice none 0 0) := (blk_cell BK303.out 2).trans rfl; have hfz16_0 := blk_frozen BK303.out 0; have hfz16_1 := blk_frozen BK303.out 1; have hfz16_2 := blk_frozen BK303.out 2))
    refine bodyPost_ret (results_cell_row rfl _ _ gb303 52 #[.bool false, .slice none 0 0, .slice Ao15 t306.length co15] (0, 0) _ rfl (by (with_reducible repeat (first | refine blk_drewN ?_ _ | refine blk_drew ?_ | refine blk_alloc ?_ _)); refine blk_put (cs := #[.bool false, .slice none 0 0, .slice none 0 0]) ?_ 2 _ rfl; (with_reducible repeat (first | refine blk_drewN ?_ _ | refine blk_drew ?_ | refine blk_alloc ?_ _)); refine blk_put (cs := #[.bool false, .slice none 0 0, .slice none 0 0]) ?_ 1 _ rfl; (with_reducible repeat (first | refine blk_drewN ?_ _ | refine blk_drew ?_ | refine blk_alloc ?_ _)); refine blk_put (cs := #[.bool false, .slice none 0 0, .slice none 0 0]) ?_ 0 _ rfl; exact zK BK303) Try.underlying52 rfl (by kernel_rfl)) rfl ?_
    exact ⟨_, _, by first | rfl | (simp [errW_none, errW_some] <;> rfl) | (simp [*, errW_none, errW_some] <;> rfl), Kd.V_mono (ok := fun _ => False) (Kd.R_V (base := 0) (Kd.R_nil _ _ _ _ _)) (fun k_ hk => hk.elim), Kd.V_mono (Kd.R_V (by (with_reducible repeat (first | apply Kd.R_alloc | apply Kd.R_drewN | apply Kd.R_drew)); exact Kd.R_mono (Kd.R_far (p := ⟨gb303, 2, none⟩) (Kd.R_far (p := ⟨gb303, 1, none⟩) (Kd.R_far (p := ⟨gb303, 0, none⟩) (Kd.R_types HO308.out BK303.out (by decide)) (fun _ hk => hk.2) (.bool false)) (fun _ hk => hk.2) (.slice none 0 0)) (fun _ hk => hk.2) (.slice Ao15 t306.length co15)) (fun _ hk => hk.1.1))) (fun k_ hk => by first | exact ⟨(.inr (hk.1)), hk.2⟩ | exact (.inr (hk))), by repeat (first | (with_reducible first | exact HB.out | apply below_alloc | apply pw_below_drewN | apply below_drew1 | refine below_set ?_ GE303.out) | exact HB.out)⟩
   ·
    replace c12 := Bool.eq_false_iff.mpr c12
    subst c12
    have H1 : ((nat_Gcd.f kj3 l1 l2).bind fun t309 => ((nat_DivMod.f kj3 l1 t309).bind fun bt312 => ((nat_DivMod.f kj3 l2 t309).bind fun bt319 => (some (a0, bt312.1, bt319.1))))) = some (r1, r2, r3) := by rw [if_neg (show ¬ (false = true) by decide)] at H; exact H
    clear H
    have H := H1
    clear H1
    replace H := Option.bind_eq_some_iff.mp H
    obtain ⟨t309, A170, H⟩ := H
    replace H : ((nat_DivMod.f kj3 l1 t309).bind fun bt312 => ((nat_DivMod.f kj3 l2 t309).bind fun bt319 => (some (a0, bt312.1, bt319.1)))) = some (r1, r2, r3) := H
    have A17 := zA A170
    clear A170
    replace H := Option.bind_eq_some_iff.mp H
    obtain ⟨⟨t312, t315, t318⟩, A180, H⟩ := H
    replace H : ((nat_DivMod.f kj3 l2 t309).bind fun bt319 => (some (a0, t312, bt319.1))) = some (r1, r2, r3) := H
    have A18 := zA A180
    clear A180
    replace H := Option.bind_eq_some_iff.mp H
    obtain ⟨⟨t319, t322, t325⟩, A190, H⟩ := H
    replace H : (some (a0, t312, t319)) = some (r1, r2, r3) := H
    have A19 := zA A190
    clear A190
    simp only [Option.some.injEq, Prod.mk.injEq] at H
    obtain ⟨rfl, rfl, rfl⟩ := H
    go_wp2_with (first | ((with_reducible refine gate_callee (f := 122) rfl ?_); refine goesL_ (some 20) rfl rfl Try.func122 (by kernel_rfl) rfl #[.slice A1 l1.length c1, .slice A2 l2.length c2] rfl (by (try simp only [List.map_toArray, List.map_cons, List.map_nil]); first | done | rfl | (simp only [List.length_drop, List.length_take]; rfl)) ?_; (with_reducible refine (nat_Gcd.calls kj3 _ _ l1 _ _ l2 t309 _ ?side1 ?side2 ?side3 ?side4 A17.out).mono ?_); (case side1 => exact zC ((Kd.V_reads' HO_1.out).2.2)); (case side2 => exact (Kd.V_reads' HO_1.out).2.1); (case side3 => exact zC ((Kd.V_reads' HO_2.out).2.2)); (case side4 => exact (Kd.V_reads' HO_2.out).2.1); rintro e w20 ⟨v310, rfl, ho0, hb⟩; refine ⟨_, rfl, ?_⟩; replace HO_1 := zA (Kd.V_elder' (by exact zV HO_1) (Kd.R_base ho0) hb); replace HO_2 := zA (Kd.V_elder' (by exact zV HO_2) (Kd.R_base ho0) hb); have HO311 := zA (Kd.R_lower (Kd.R_newM (M := fun k_ => (w.heap.size ≤ k_)) ho0 (below_size (by repeat (first | (with_reducible first | exact HB.out | apply below_alloc | apply pw_below_drewN | apply below_drew1 | refine below_set ?_ GE303.out) | exact HB.out))) (fun k_ h_ => h_)) (below_size (by repeat (first | (with_reducible first | exact HB.out | apply below_alloc | apply pw_below_drewN | apply below_drew1 | refine below_set ?_ GE303.out) | exact HB.out)))); replace BK303 := zA (blk_below (g := gb303) (o := .cells #[.bool false, .slice none 0 0, .slice none 0 0] 52 (0, 0)) (by exact zK BK303) hb); replace HB := zA (below_step (by repeat (first | (with_reducible first | exact HB.out | apply below_alloc | apply pw_below_drewN | apply below_drew1 | refine below_set ?_ GE303.out) | exact HB.out)) hb); (try clear hb ho0); obtain ⟨Ao21, co21, eo21⟩ := Kd.R_slice HO311.out; subst eo21) | ((with_reducible refine gate_callee (f := 102) rfl ?_); refine goesL_ (some 24) rfl rfl Try.func102 (by kernel_rfl) rfl #[.slice A1 l1.length c1, .slice Ao21 t309.length co21] rfl (by (try simp only [List.map_toArray, List.map_cons, List.map_nil]); first | done | rfl | (simp only [List.length_drop, List.length_take]; rfl)) ?_; (with_reducible refine (nat_DivMod.calls kj3 (fun k_ => ((((P1_ k_ ∨ P2_ k_) ∨ w.heap.size ≤ k_) ∧ k_ ≠ gb303) ∧ some k_ ≠ (.slice Ao21 t309.length co21 : Value).ownBlock)) _ _ l1 (fun k_ => some k_ = (.slice Ao21 t309.length co21 : Value).ownBlock) _ _ t309 t312 t315 t318 _ ?side1 ?side2 A18.out).mono ?_); (case side1 => exact HO_1.out); (case side2 => exact Kd.R_V (Kd.R_tight rfl (Kd.R_types (HO311.out) BK303.out (by decide)))); rintro e w22 ⟨v313, v316, rfl, ho0, ho1, hb⟩; refine ⟨_, rfl, ?_⟩; replace HO_1 := zA (Kd.V_elder' (by exact zV HO_1) (Kd.R_base ho1) hb); replace HO_2 := zA (Kd.V_elder' (by exact zV HO_2) (Kd.R_base ho1) hb); have HO314 := zA (Kd.V_lower (Kd.V_mono (ok' := fun k_ => ((P1_ k_ ∨ P2_ k_) ∨ w.heap.size ≤ k_) ∧ some k_ ≠ (v316 : Value).ownBlock ∧ k_ ≠ gb303) ho0 (fun k_ hk_ => ⟨Or.elim hk_.1 (fun hs_ => Or.elim hs_ (fun hs_ => hs_.1.1) (fun hs_ => (.inr (((Kd.R_types (HO311.out) BK303.out (by decide)).1 k_ hs_.symm).1.1)))) (fun hn_ => (.inr (Nat.le_trans (below_size (by repeat (first | (with_reducible first | exact HB.out | apply below_alloc | apply pw_below_drewN | apply below_drew1 | refine below_set ?_ GE303.out) | exact HB.out))) hn_))), hk_.2, Or.elim hk_.1 (fun hs_ => Or.elim hs_ (fun hs_ => hs_.1.2) (fun hs_ => ((Kd.R_types (HO311.out) BK303.out (by decide)).1 k_ hs_.symm).2)) (fun hn_ => (Kd.freshB (g := gb303) (o := .cells #[.bool false, .slice none 0 0, .slice none 0 0] 52 (0, 0)) (by exact zK BK303) k_ hn_))⟩)) (below_size (by repeat (first | (with_reducible first | exact HB.out | apply below_alloc | apply pw_below_drewN | apply below_drew1 | refine below_set ?_ GE303.out) | exact HB.out)))); have HO317 := zA (Kd.R_lower (Kd.R_new' (Kd.R_newM (M := fun k_ => (w.heap.size ≤ k_)) (Kd.R_mono (ok' := fun k_ => True) ho1 (fun _ hk_ => trivial)) (below_size (by repeat (first | (with_reducible first | exact HB.out | apply below_alloc | apply pw_below_drewN | apply below_drew1 | refine below_set ?_ GE303.out) | exact HB.out))) (fun k_ h_ => h_)) (Kd.R_lt (by exact zR HO311))) (below_size (by repeat (first | (with_reducible first | exact HB.out | apply below_alloc | apply pw_below_drewN | apply below_drew1 | refine below_set ?_ GE303.out) | exact HB.out)))); replace HO311 := zA (Kd.R_elder' (by exact zR HO311) (Kd.R_base ho1) hb); replace BK303 := zA (blk_below (g := gb303) (o := .cells #[.bool false, .slice none 0 0, .slice none 0 0] 52 (0, 0)) (by exact zK BK303) hb); replace HB := zA (below_step (by repeat (first | (with_reducible first | exact HB.out | apply below_alloc | apply pw_below_drewN | apply below_drew1 | refine below_set ?_ GE303.out) | exact HB.out)) hb); (try clear hb ho0 ho1)) | ((with_reducible refine gate_callee (f := 102) rfl ?_); refine goesL_ (some 31) rfl rfl Try.func102 (by kernel_rfl) rfl #[.slice A2 l2.length c2, .slice Ao21 t309.length co21] rfl (by (try simp only [List.map_toArray, List.map_cons, List.map_nil]); first | done | rfl | (simp only [List.length_drop, List.length_take]; rfl)) ?_; (with_reducible refine (nat_DivMod.calls kj3 (fun k_ => (((((P1_ k_ ∨ P2_ k_) ∨ w.heap.size ≤ k_) ∧ k_ ≠ gb303) ∧ some k_ ≠ (.slice Ao21 t309.length co21 : Value).ownBlock) ∧ some k_ ≠ (v316 : Value).ownBlock)) _ _ l2 (fun k_ => some k_ = (.slice Ao21 t309.length co21 : Value).ownBlock) _ _ t309 t319 t322 t325 _ ?side1 ?side2 A19.out).mono ?_); (case side1 => exact HO_2.out); (case side2 => exact Kd.R_V (Kd.R_tight rfl (Kd.R_types (HO311.out) BK303.out (by decide)))); rintro e w23 ⟨v320, v323, rfl, ho0, ho1, hb⟩; refine ⟨_, rfl, ?_⟩; replace HO_1 := zA (Kd.V_elder' (by exact zV HO_1) (Kd.R_base ho1) hb); replace HO_2 := zA (Kd.V_elder' (by exact zV HO_2) (Kd.R_base ho1) hb); replace HO314 := zA (Kd.V_elder' (by exact zV HO314) (Kd.R_base ho1) hb); have HO321 := zA (Kd.V_lower (Kd.V_mono (ok' := fun k_ => ((P1_ k_ ∨ P2_ k_) ∨ w.heap.size ≤ k_) ∧ some k_ ≠ (v323 : Value).ownBlock ∧ some k_ ≠ (v316 : Value).ownBlock ∧ k_ ≠ gb303) ho0 (fun k_ hk_ => ⟨Or.elim hk_.1 (fun hs_ => Or.elim hs_ (fun hs_ => hs_.1.1.1) (fun hs_ => (.inr (((Kd.R_types (HO311.out) BK303.out (by decide)).1 k_ hs_.symm).1.1.1)))) (fun hn_ => (.inr (Nat.le_trans (below_size (by repeat (first | (with_reducible first | exact HB.out | apply below_alloc | apply pw_below_drewN | apply below_drew1 | refine below_set ?_ GE303.out) | exact HB.out))) hn_))), hk_.2, Or.elim hk_.1 (fun hs_ => Or.elim hs_ (fun hs_ => hs_.2) (fun hs_ => ((Kd.R_types (HO311.out) BK303.out (by decide)).1 k_ hs_.symm).1.2)) (fun hn_ => (Kd.fresh' (Kd.R_lt (by exact zR HO317)) k_ hn_)), Or.elim hk_.1 (fun hs_ => Or.elim hs_ (fun hs_ => hs_.1.1.2) (fun hs_ => ((Kd.R_types (HO311.out) BK303.out (by decide)).1 k_ hs_.symm).2)) (fun hn_ => (Kd.freshB (g := gb303) (o := .cells #[.bool false, .slice none 0 0, .slice none 0 0] 52 (0, 0)) (by exact zK BK303) k_ hn_))⟩)) (below_size (by repeat (first | (with_reducible first | exact HB.out | apply below_alloc | apply pw_below_drewN | apply below_drew1 | refine below_set ?_ GE303.out) | exact HB.out)))); have HO324 := zA (Kd.R_lower (Kd.R_new' (Kd.R_new' (Kd.R_newM (M := fun k_ => (w.heap.size ≤ k_)) (Kd.R_mono (ok' := fun k_ => True) ho1 (fun _ hk_ => trivial)) (below_size (by repeat (first | (with_reducible first | exact HB.out | apply below_alloc | apply pw_below_drewN | apply below_drew1 | refine below_set ?_ GE303.out) | exact HB.out))) (fun k_ h_ => h_)) (Kd.R_lt (by exact zR HO311))) (Kd.R_lt (by exact zR HO317))) (below_size (by repeat (first | (with_reducible first | exact HB.out | apply below_alloc | apply pw_below_drewN | apply below_drew1 | refine below_set ?_ GE303.out) | exact HB.out)))); replace HO311 := zA (Kd.R_elder' (by exact zR HO311) (Kd.R_base ho1) hb); replace HO317 := zA (Kd.R_elder' (by exact zR HO317) (Kd.R_base ho1) hb); replace BK303 := zA (blk_below (g := gb303) (o := .cells #[.bool false, .slice none 0 0, .slice none 0 0] 52 (0, 0)) (by exact zK BK303) hb); replace HB := zA (below_step (by repeat (first | (with_reducible first | exact HB.out | apply below_alloc | apply pw_below_drewN | apply below_drew1 | refine below_set ?_ GE303.out) | exact HB.out)) hb); (try clear hb ho0 ho1); obtain ⟨Ao24, co24, eo24⟩ := Kd.V_slice HO321.out; subst eo24; obtain ⟨Ao25, co25, eo25⟩ := Kd.V_slice HO314.out; subst eo25; have hcz26_0 : w23.cell? ⟨gb303, 0, none⟩ = some (.bool false) := (blk_cell BK303.out 0).trans rfl; have hcz26_1 : w23.cell? ⟨gb303, 1, none⟩ = some (.slice none 0 0) := (blk_cell BK303.out 1).trans rfl; have hcz26_2 : w23.cell? ⟨gb303, 2, none⟩ = some (.slice none 0 0) := (blk_cell BK303.out 2).trans rfl; have hfz26_0 := blk_frozen BK303.out 0; have hfz26_1 := blk_frozen BK303.out 1; have hfz26_2 := blk_frozen BK303.out 2))
    refine bodyPost_ret (results_cell_row rfl _ _ gb303 52 #[.bool a0, .slice Ao25 t312.length co25, .slice Ao24 t319.length co24] (0, 0) _ rfl (by (with_reducible repeat (first | refine blk_drewN ?_ _ | refine blk_drew ?_ | refine blk_alloc ?_ _)); refine blk_put (cs := #[.bool a0, .slice Ao25 t312.length co25, .slice none 0 0]) ?_ 2 _ rfl; (with_reducible repeat (first | refine blk_drewN ?_ _ | refine blk_drew ?_ | refine blk_alloc ?_ _)); refine blk_put (cs := #[.bool a0, .slice none 0 0, .slice none 0 0]) ?_ 1 _ rfl; (with_reducible repeat (first | refine blk_drewN ?_ _ | refine blk_drew ?_ | refine blk_alloc ?_ _)); refine blk_put (cs := #[.bool false, .slice none 0 0, .slice none 0 0]) ?_ 0 _ rfl; exact zK BK303) Try.underlying52 rfl (by kernel_rfl)) rfl ?_
    exact ⟨_, _, by first | rfl | (simp [errW_none, errW_some] <;> rfl) | (simp [*, errW_none, errW_some] <;> rfl), by (with_reducible repeat (first | apply Kd.V_alloc | apply Kd.V_drewN | apply Kd.V_drew)); exact Kd.V_mono (Kd.V_far (p := ⟨gb303, 2, none⟩) (Kd.V_far (p := ⟨gb303, 1, none⟩) (Kd.V_far (p := ⟨gb303, 0, none⟩) (Kd.V_mono HO314.out (fun k_ hk => (⟨hk, hk.1.2.2⟩ : _ ∧ k_ ≠ gb303))) (fun _ hk => hk.2) (.bool a0)) (fun _ hk => hk.2) (.slice Ao25 t312.length co25)) (fun _ hk => hk.2) (.slice Ao24 t319.length co24)) (fun _ hk => hk.1.1.1), by (with_reducible repeat (first | apply Kd.V_alloc | apply Kd.V_drewN | apply Kd.V_drew)); exact Kd.V_mono (Kd.V_far (p := ⟨gb303, 2, none⟩) (Kd.V_far (p := ⟨gb303, 1, none⟩) (Kd.V_far (p := ⟨gb303, 0, none⟩) (Kd.V_mono HO321.out (fun k_ hk => (⟨hk, hk.2.2.2⟩ : _ ∧ k_ ≠ gb303))) (fun _ hk => hk.2) (.bool a0)) (fun _ hk => hk.2) (.slice Ao25 t312.length co25)) (fun _ hk => hk.2) (.slice Ao24 t319.length co24)) (fun _ hk => hk.1.1), by repeat (first | (with_reducible first | exact HB.out | apply below_alloc | apply pw_below_drewN | apply below_drew1 | refine below_set ?_ GE303.out) | exact HB.out)⟩
/-! ### rational_Trim: function 100 -/
def rational_Trim.f (k : Nat) (a0_0 : Bool) (l0_1 : List Int) (l0_2 : List Int) : Option (Bool × List Int × List Int) := (rational_canonical.f k a0_0 l0_1 l0_2).bind fun bt328 => (some (bt328.1, bt328.2.1, bt328.2.2))
set_option maxHeartbeats 8000000 in
set_option maxRecDepth 100000 in
theorem rational_Trim.calls (k : Nat) (a0_0 : Bool) (P0_1_ : Nat → Prop) (A0_1 : Option Addr) (c0_1 : Nat) (l0_1 : List Int) (P0_2_ : Nat → Prop) (A0_2 : Option Addr) (c0_2 : Nat) (l0_2 : List Int) (r1 : Bool) (r2 : List Int) (r3 : List Int) (w : World) (hs0_1 : Kd.V (Kd.int .u32) 79 w w.heap.size (fun k_ => P0_1_ k_) (.slice A0_1 l0_1.length c0_1) l0_1) (hs0_2 : Kd.V (Kd.int .u32) 79 w w.heap.size (fun k_ => P0_2_ k_) (.slice A0_2 l0_2.length c0_2) l0_2) (h : rational_Trim.f k a0_0 l0_1 l0_2 = some (r1, r2, r3)) :
  Calls Try.prog 100 #[.agg #[.bool a0_0, .slice A0_1 l0_1.length c0_1, .slice A0_2 l0_2.length c0_2]] w fun e w' => ∃ v1_ v2_ : Value, e = .returned (.agg #[.bool r1, v1_, v2_]) ∧ Kd.V (Kd.int .u32) 79 w' w.heap.size (fun k_ => ((P0_1_ k_ ∨ P0_2_ k_) ∨ w.heap.size ≤ k_)) v1_ r2 ∧ Kd.V (Kd.int .u32) 79 w' w.heap.size (fun k_ => ((P0_1_ k_ ∨ P0_2_ k_) ∨ w.heap.size ≤ k_)) v2_ r3 ∧ Below w.heap.size w w' := by
 have hu52 := Try.underlying52
 have HO0_1 := zA (show Kd.V (Kd.int .u32) 79 w w.heap.size (fun k_ => ((P0_1_ k_ ∨ P0_2_ k_) ∨ w.heap.size ≤ k_)) (.slice A0_1 l0_1.length c0_1) l0_1 from Kd.V_mono hs0_1 (fun k_ hk => .inl (.inl hk)))
 have HO0_2 := zA (show Kd.V (Kd.int .u32) 79 w w.heap.size (fun k_ => ((P0_1_ k_ ∨ P0_2_ k_) ∨ w.heap.size ≤ k_)) (.slice A0_2 l0_2.length c0_2) l0_2 from Kd.V_mono hs0_2 (fun k_ hk => .inl (.inr hk)))
 have HB := zA (Below.refl w.heap.size w)
 have H : ((rational_canonical.f k a0_0 l0_1 l0_2).bind fun bt328 => (some (bt328.1, bt328.2.1, bt328.2.2))) = some (r1, r2, r3) := h
 clear h
 replace H := Option.bind_eq_some_iff.mp H
 obtain ⟨⟨t328, t329, t332⟩, A20, H⟩ := H
 replace H : (some (t328, t329, t332)) = some (r1, r2, r3) := H
 have A2 := zA A20
 clear A20
 simp only [Option.some.injEq, Prod.mk.injEq] at H
 obtain ⟨rfl, rfl, rfl⟩ := H
 go_enter Try.func100, Try.ntmps100
 go_wp2_with (first | ((with_reducible refine gate_dst (N := 1) rfl ?_); refine box_event ?hg (N := 1) ?hd (cs := #[.bool a0_0, .slice A0_1 l0_1.length c0_1, .slice A0_2 l0_2.length c0_2]) (t := 52) ?hr ?_; (case hd => rfl); (case hg => rfl); (case hr => first | (go_simp; done) | (go_simp; rfl)); intro gb326 hg w3 hbox hb; replace HO0_1 := zA (Kd.V_below (Kd.V_elderB (by exact zV HO0_1) gb326 (Nat.le_of_eq hg.symm)) hb); replace HO0_2 := zA (Kd.V_below (Kd.V_elderB (by exact zV HO0_2) gb326 (Nat.le_of_eq hg.symm)) hb); have BK326 := zA (hbox); have GW326 := zA ((by rw [hg]; exact (below_size (by exact zB HB)) : w.heap.size ≤ gb326)); have GE326 := zA ((by rw [hg]; exact (below_size (by exact zB HB)) : w.heap.size ≤ gb326)); replace HB := zA (below_step (by exact zB HB) hb); clear hb hbox hg) | ((with_reducible refine gate_dst (N := 2) rfl ?_); refine box_event ?hg (N := 2) ?hd (cs := #[.bool false, .slice none 0 0, .slice none 0 0]) (t := 52) ?hr ?_; (case hd => rfl); (case hg => rfl); (case hr => first | (go_simp; done) | (go_simp; rfl)); intro gb327 hg w4 hbox hb; replace HO0_1 := zA (Kd.V_below (Kd.V_elderB (by exact zV HO0_1) gb327 (Nat.le_of_eq hg.symm)) hb); replace HO0_2 := zA (Kd.V_below (Kd.V_elderB (by exact zV HO0_2) gb327 (Nat.le_of_eq hg.symm)) hb); have BK327 := zA (hbox); have GW327 := zA ((by rw [hg]; exact (below_size (by repeat (first | (with_reducible first | exact HB.out | apply below_alloc | apply pw_below_drewN | apply below_drew1 | refine below_set ?_ GE326.out) | exact HB.out))) : w.heap.size ≤ gb327)); have GE327 := zA ((by rw [hg]; exact (below_size (by repeat (first | (with_reducible first | exact HB.out | apply below_alloc | apply pw_below_drewN | apply below_drew1 | refine below_set ?_ GE326.out) | exact HB.out))) : w.heap.size ≤ gb327)); replace HB := zA (below_step (by repeat (first | (with_reducible first | exact HB.out | apply below_alloc | apply pw_below_drewN | apply below_drew1 | refine below_set ?_ GE326.out) | exact HB.out)) hb); have NB326_327 := zA ((by rw [hg]; exact Nat.ne_of_lt (blk_lt (g := gb326) (o := .cells #[.bool a0_0, .slice A0_1 l0_1.length c0_1, .slice A0_2 l0_2.length c0_2] 52 (0, 0)) (by exact zK BK326)) : gb326 ≠ gb327)); have NB327_326 := zA ((by rw [hg]; exact Nat.ne_of_gt (blk_lt (g := gb326) (o := .cells #[.bool a0_0, .slice A0_1 l0_1.length c0_1, .slice A0_2 l0_2.length c0_2] 52 (0, 0)) (by exact zK BK326)) : gb327 ≠ gb326)); replace BK326 := zA (blk_below (g := gb326) (o := .cells #[.bool a0_0, .slice A0_1 l0_1.length c0_1, .slice A0_2 l0_2.length c0_2] 52 (0, 0)) (by exact zK BK326) hb); clear hb hbox hg; have hnb5 := NB326_327.out; have hnc5 := NB327_326.out; have hcz6_0 : w4.cell? ⟨gb326, 0, none⟩ = some (.bool a0_0) := (blk_cell BK326.out 0).trans rfl; have hcz6_1 : w4.cell? ⟨gb326, 1, none⟩ = some (.slice A0_1 l0_1.length c0_1) := (blk_cell BK326.out 1).trans rfl; have hcz6_2 : w4.cell? ⟨gb326, 2, none⟩ = some (.slice A0_2 l0_2.length c0_2) := (blk_cell BK326.out 2).trans rfl; have hfz6_0 := blk_frozen BK326.out 0; have hfz6_1 := blk_frozen BK326.out 1; have hfz6_2 := blk_frozen BK326.out 2) | ((with_reducible refine gate_callee (f := 111) rfl ?_); refine goesL_ (some 9) rfl rfl Try.func111 (by kernel_rfl) rfl #[.bool a0_0, .slice A0_1 l0_1.length c0_1, .slice A0_2 l0_2.length c0_2] rfl (by (try simp only [List.map_toArray, List.map_cons, List.map_nil]); first | done | rfl | (simp only [List.length_drop, List.length_take]; rfl)) ?_; (with_reducible refine (rational_canonical.calls k a0_0 (fun k_ => ((((P0_1_ k_ ∨ P0_2_ k_) ∨ w.heap.size ≤ k_) ∧ k_ ≠ gb326) ∧ k_ ≠ gb327)) _ _ l0_1 (fun k_ => ((((P0_1_ k_ ∨ P0_2_ k_) ∨ w.heap.size ≤ k_) ∧ k_ ≠ gb326) ∧ k_ ≠ gb327)) _ _ l0_2 t328 t329 t332 _ ?side1 ?side2 A2.out).mono ?_); (case side1 => exact HO0_1.out); (case side2 => exact HO0_2.out); rintro e w7 ⟨v330, v333, rfl, ho0, ho1, hb⟩; refine ⟨_, rfl, ?_⟩; replace HO0_1 := zA (Kd.V_below (by exact zV HO0_1) hb); replace HO0_2 := zA (Kd.V_below (by exact zV HO0_2) hb); have HO331 := zA (Kd.V_lower (Kd.V_mono (ok' := fun k_ => ((P0_1_ k_ ∨ P0_2_ k_) ∨ w.heap.size ≤ k_) ∧ k_ ≠ gb326 ∧ k_ ≠ gb327) ho0 (fun k_ hk_ => ⟨Or.elim hk_ (fun hs_ => Or.elim hs_ (fun hs_ => hs_.1.1) (fun hs_ => hs_.1.1)) (fun hn_ => (.inr (Nat.le_trans (below_size (by repeat (first | (with_reducible first | exact HB.out | apply below_alloc | apply pw_below_drewN | apply below_drew1 | refine below_set ?_ GE326.out | refine below_set ?_ GE327.out) | exact HB.out))) hn_))), Or.elim hk_ (fun hs_ => Or.elim hs_ (fun hs_ => hs_.1.2) (fun hs_ => hs_.1.2)) (fun hn_ => (Kd.freshB (g := gb326) (o := .cells #[.bool a0_0, .slice A0_1 l0_1.length c0_1, .slice A0_2 l0_2.length c0_2] 52 (0, 0)) (by exact zK BK326) k_ hn_)), Or.elim hk_ (fun hs_ => Or.elim hs_ (fun hs_ => hs_.2) (fun hs_ => hs_.2)) (fun hn_ => (Kd.freshB (g := gb327) (o := .cells #[.bool false, .slice none 0 0, .slice none 0 0] 52 (0, 0)) (by exact zK BK327) k_ hn_))⟩)) (below_size (by repeat (first | (with_reducible first | exact HB.out | apply below_alloc | apply pw_below_drewN | apply below_drew1 | refine below_set ?_ GE326.out | refine below_set ?_ GE327.out) | exact HB.out)))); have HO334 := zA (Kd.V_lower (Kd.V_mono (ok' := fun k_ => ((P0_1_ k_ ∨ P0_2_ k_) ∨ w.heap.size ≤ k_) ∧ k_ ≠ gb326 ∧ k_ ≠ gb327) ho1 (fun k_ hk_ => ⟨Or.elim hk_ (fun hs_ => Or.elim hs_ (fun hs_ => hs_.1.1) (fun hs_ => hs_.1.1)) (fun hn_ => (.inr (Nat.le_trans (below_size (by repeat (first | (with_reducible first | exact HB.out | apply below_alloc | apply pw_below_drewN | apply below_drew1 | refine below_set ?_ GE326.out | refine below_set ?_ GE327.out) | exact HB.out))) hn_))), Or.elim hk_ (fun hs_ => Or.elim hs_ (fun hs_ => hs_.1.2) (fun hs_ => hs_.1.2)) (fun hn_ => (Kd.freshB (g := gb326) (o := .cells #[.bool a0_0, .slice A0_1 l0_1.length c0_1, .slice A0_2 l0_2.length c0_2] 52 (0, 0)) (by exact zK BK326) k_ hn_)), Or.elim hk_ (fun hs_ => Or.elim hs_ (fun hs_ => hs_.2) (fun hs_ => hs_.2)) (fun hn_ => (Kd.freshB (g := gb327) (o := .cells #[.bool false, .slice none 0 0, .slice none 0 0] 52 (0, 0)) (by exact zK BK327) k_ hn_))⟩)) (below_size (by repeat (first | (with_reducible first | exact HB.out | apply below_alloc | apply pw_below_drewN | apply below_drew1 | refine below_set ?_ GE326.out | refine below_set ?_ GE327.out) | exact HB.out)))); replace BK326 := zA (blk_below (g := gb326) (o := .cells #[.bool a0_0, .slice A0_1 l0_1.length c0_1, .slice A0_2 l0_2.length c0_2] 52 (0, 0)) (by exact zK BK326) hb); replace BK327 := zA (blk_below (g := gb327) (o := .cells #[.bool false, .slice none 0 0, .slice none 0 0] 52 (0, 0)) (by exact zK BK327) hb); replace HB := zA (below_step (by repeat (first | (with_reducible first | exact HB.out | apply below_alloc | apply pw_below_drewN | apply below_drew1 | refine below_set ?_ GE326.out | refine below_set ?_ GE327.out) | exact HB.out)) hb); (try clear hb ho0 ho1); have hcz8_0 : w7.cell? ⟨gb327, 0, none⟩ = some (.bool false) := (blk_cell BK327.out 0).trans rfl; have hcz8_1 : w7.cell? ⟨gb327, 1, none⟩ = some (.slice none 0 0) := (blk_cell BK327.out 1).trans rfl; have hcz8_2 : w7.cell? ⟨gb327, 2, none⟩ = some (.slice none 0 0) := (blk_cell BK327.out 2).trans rfl; have hfz8_0 := blk_frozen BK327.out 0; have hfz8_1 := blk_frozen BK327.out 1; have hfz8_2 := blk_frozen BK327.out 2; obtain ⟨Ao9, co9, eo9⟩ := Kd.V_slice HO331.out; subst eo9; obtain ⟨Ao10, co10, eo10⟩ := Kd.V_slice HO334.out; subst eo10))
 refine bodyPost_ret (results_cell_row rfl _ _ gb327 52 #[.bool t328, .slice Ao9 t329.length co9, .slice Ao10 t332.length co10] (0, 0) _ rfl (by (with_reducible repeat (first | refine blk_drewN ?_ _ | refine blk_drew ?_ | refine blk_alloc ?_ _)); refine blk_put (cs := #[.bool t328, .slice Ao9 t329.length co9, .slice none 0 0]) ?_ 2 _ rfl; (with_reducible repeat (first | refine blk_drewN ?_ _ | refine blk_drew ?_ | refine blk_alloc ?_ _)); refine blk_put (cs := #[.bool t328, .slice none 0 0, .slice none 0 0]) ?_ 1 _ rfl; (with_reducible repeat (first | refine blk_drewN ?_ _ | refine blk_drew ?_ | refine blk_alloc ?_ _)); refine blk_put (cs := #[.bool false, .slice none 0 0, .slice none 0 0]) ?_ 0 _ rfl; exact zK BK327) Try.underlying52 rfl (by kernel_rfl)) rfl ?_
 exact ⟨_, _, by first | rfl | (simp [errW_none, errW_some] <;> rfl) | (simp [*, errW_none, errW_some] <;> rfl), by (with_reducible repeat (first | apply Kd.V_alloc | apply Kd.V_drewN | apply Kd.V_drew)); exact Kd.V_mono (Kd.V_far (p := ⟨gb327, 2, none⟩) (Kd.V_far (p := ⟨gb327, 1, none⟩) (Kd.V_far (p := ⟨gb327, 0, none⟩) (Kd.V_mono HO331.out (fun k_ hk => (⟨hk, hk.2.2⟩ : _ ∧ k_ ≠ gb327))) (fun _ hk => hk.2) (.bool t328)) (fun _ hk => hk.2) (.slice Ao9 t329.length co9)) (fun _ hk => hk.2) (.slice Ao10 t332.length co10)) (fun _ hk => hk.1.1), by (with_reducible repeat (first | apply Kd.V_alloc | apply Kd.V_drewN | apply Kd.V_drew)); exact Kd.V_mono (Kd.V_far (p := ⟨gb327, 2, none⟩) (Kd.V_far (p := ⟨gb327, 1, none⟩) (Kd.V_far (p := ⟨gb327, 0, none⟩) (Kd.V_mono HO334.out (fun k_ hk => (⟨hk, hk.2.2⟩ : _ ∧ k_ ≠ gb327))) (fun _ hk => hk.2) (.bool t328)) (fun _ hk => hk.2) (.slice Ao9 t329.length co9)) (fun _ hk => hk.2) (.slice Ao10 t332.length co10)) (fun _ hk => hk.1.1), by repeat (first | (with_reducible first | exact HB.out | apply below_alloc | apply pw_below_drewN | apply below_drew1 | refine below_set ?_ GE326.out | refine below_set ?_ GE327.out) | exact HB.out)⟩
/-! ### channel_pattern: function 60 -/
mutual
def channel_pattern.l0 : Nat → Int → Int → List Int → List (S52) → Int → Int → Option ((List (S52)))
 | 0, _, _, _, _, _, _ => none
 | k + 1, x1, x2, x7, x9, x26, x27 => if x27 < x26 then ((channel_zero.f).bind fun bt345 => (if 0 ≤ x27 then (if x27 < (x9.length : Int) then (channel_pattern.l0 k x1 x2 x7 (x9.set (x27 : Int).toNat (⟨bt345.1, bt345.2.1, bt345.2.2⟩ : S52)) x26 (wrap64 (x27 + 1))) else (none)) else (none))) else (channel_pattern.l1 k x1 x2 x7 x9 0)
def channel_pattern.l1 : Nat → Int → Int → List Int → List (S52) → Int → Option ((List (S52)))
 | 0, _, _, _, _, _ => none
 | k + 1, x1, x2, x7, x9, x11 => if (wrap64 (x2 + x11)) ≤ x1 then ((nat_Binomial.f k (wrap64 (x1 - x2)) x11).bind fun bt353 => ((rational_Trim.f k ((Int.tmod x11 2) == 1) bt353.1 x7).bind fun bt357 => (if 0 ≤ (wrap64 (x2 + x11)) then (if (wrap64 (x2 + x11)) < (x9.length : Int) then (channel_pattern.l1 k x1 x2 x7 (x9.set ((wrap64 (x2 + x11)) : Int).toNat (⟨bt357.1, bt357.2.1, bt357.2.2⟩ : S52)) (wrap64 (x11 + 1))) else (none)) else (none)))) else (some x9)
end
def channel_pattern.f (k : Nat) (a0 : Int) (a1 : Int) (a2 : Int) : Option ((List (S52))) := (nat_Of.f k (IntKind.u64.wrap (wrap64 (a0 - 1)))).bind fun t335 => ((nat_Pow.f k t335 a2).bind fun bt338 => (if 0 ≤ (wrap64 (a1 + 1)) then (if (wrap64 (a1 + 1) : Int).toNat ≤ 5026338869833 then (channel_pattern.l0 k a1 a2 bt338.1 (List.replicate (wrap64 (a1 + 1) : Int).toNat z52) a2 0) else (none)) else (none)))
set_option maxHeartbeats 8000000 in
set_option maxRecDepth 100000 in
theorem channel_pattern.calls (k : Nat) (a0 : Int) (a1 : Int) (a2 : Int) (r : List (S52)) (w : World) (h : channel_pattern.f k a0 a1 a2 = some r) :
  Calls Try.prog 60 #[.int .i64 a0, .int .i64 a1, .int .i64 a2] w fun e w' => ∃ v0_ : Value, e = .returned (v0_) ∧ Kd.N k52 52 w' w.heap.size (fun k_ => (w.heap.size ≤ k_)) v0_ r ∧ Below w.heap.size w w' := by
 have hu52 := Try.underlying52
 have HB := zA (Below.refl w.heap.size w)
 have H : ((nat_Of.f k (IntKind.u64.wrap (wrap64 (a0 - 1)))).bind fun t335 => ((nat_Pow.f k t335 a2).bind fun bt338 => (if 0 ≤ (wrap64 (a1 + 1)) then (if (wrap64 (a1 + 1) : Int).toNat ≤ 5026338869833 then (channel_pattern.l0 k a1 a2 bt338.1 (List.replicate (wrap64 (a1 + 1) : Int).toNat z52) a2 0) else (none)) else (none)))) = some r := h
 clear h
 replace H := Option.bind_eq_some_iff.mp H
 obtain ⟨t335, A40, H⟩ := H
 replace H : ((nat_Pow.f k t335 a2).bind fun bt338 => (if 0 ≤ (wrap64 (a1 + 1)) then (if (wrap64 (a1 + 1) : Int).toNat ≤ 5026338869833 then (channel_pattern.l0 k a1 a2 bt338.1 (List.replicate (wrap64 (a1 + 1) : Int).toNat z52) a2 0) else (none)) else (none))) = some r := H
 have A4 := zA A40
 clear A40
 replace H := Option.bind_eq_some_iff.mp H
 obtain ⟨⟨t338, t339⟩, A50, H⟩ := H
 replace H : (if 0 ≤ (wrap64 (a1 + 1)) then (if (wrap64 (a1 + 1) : Int).toNat ≤ 5026338869833 then (channel_pattern.l0 k a1 a2 t338 (List.replicate (wrap64 (a1 + 1) : Int).toNat z52) a2 0) else (none)) else (none)) = some r := H
 have A5 := zA A50
 clear A50
 obtain ⟨ji6, hji6⟩ : ∃ j_ : Int, (wrap64 (a1 + 1)) = j_ := ⟨_, rfl⟩
 replace H : (if 0 ≤ (ji6) then (if (ji6 : Int).toNat ≤ 5026338869833 then (channel_pattern.l0 k a1 a2 t338 (List.replicate (ji6 : Int).toNat z52) a2 0) else (none)) else (none)) = some r := by first | (rw [hji6] at H; exact H) | (simp only [hji6] at H ⊢; exact H)
 (try rw [hji6] at A4)
 (try rw [hji6] at A5)
 have hji6w : (IntKind.i64.wrap (a1 + 1)) = ji6 := (i64_w _).trans hji6
 by_cases c7 : 0 ≤ (ji6)
 ·
  rw [if_pos c7] at H
  have c7b0 := eq_true c7
  have c7b1 : decide (0 ≤ (ji6)) = true := decide_eq_true c7
  clear c7
  by_cases c8 : (ji6 : Int).toNat ≤ 5026338869833
  ·
   rw [if_pos c8] at H
   have c8b0 := eq_true c8
   have c8b1 : decide ((ji6 : Int).toNat ≤ 5026338869833) = true := decide_eq_true c8
   clear c8
   obtain ⟨y342, hy342⟩ : ∃ y_ : List (S52), y_ = (List.replicate (ji6 : Int).toNat z52) := ⟨_, rfl⟩
   replace H : (channel_pattern.l0 k a1 a2 t338 y342 a2 0) = some r := by first | (rw [hy342]; with_reducible exact H) | (have H := (Option.bind_some _ _).symm.trans H; first | (rw [hy342]; with_reducible exact H) | with_reducible exact H) | (rw [hy342]; exact H) | exact H
   have Ny342 := zA hy342
   clear hy342
   have H' := zA H
   clear H
   go_enter Try.func60, Try.ntmps60
   go_wp2_with (first | ((with_reducible refine gate_callee (f := 98) rfl ?_); refine goesL_ (some 18) rfl rfl Try.func98 (by kernel_rfl) rfl #[.int .u64 (IntKind.u64.wrap (wrap64 (a0 - 1)))] rfl (by (try simp only [List.map_toArray, List.map_cons, List.map_nil]); first | done | rfl | (simp only [List.length_drop, List.length_take]; rfl)) ?_; (with_reducible refine (nat_Of.calls k (IntKind.u64.wrap (wrap64 (a0 - 1))) t335 _ A4.out).mono ?_); rintro e w9 ⟨v336, rfl, ho0, hb⟩; refine ⟨_, rfl, ?_⟩; have HO337 := zA (Kd.R_lower (Kd.R_newM (M := fun k_ => (w.heap.size ≤ k_)) ho0 (below_size (by exact zB HB)) (fun k_ h_ => h_)) (below_size (by exact zB HB))); replace HB := zA (below_step (by exact zB HB) hb); (try clear hb ho0); obtain ⟨Ao10, co10, eo10⟩ := Kd.R_slice HO337.out; subst eo10) | ((with_reducible refine gate_callee (f := 97) rfl ?_); refine goesL_ (some 20) rfl rfl Try.func97 (by kernel_rfl) rfl #[.slice Ao10 t335.length co10, .int .i64 a2] rfl (by (try simp only [List.map_toArray, List.map_cons, List.map_nil]); first | done | rfl | (simp only [List.length_drop, List.length_take]; rfl)) ?_; (with_reducible refine (nat_Pow.calls k _ _ t335 a2 t338 t339 _ ?side1 ?side2 A5.out).mono ?_); (case side1 => exact zC ((Kd.R_reads' HO337.out).2.2)); (case side2 => exact (Kd.R_reads' HO337.out).2.1); rintro e w11 ⟨v340, rfl, ho0, hb⟩; refine ⟨_, rfl, ?_⟩; have HO341 := zA (Kd.R_lower (Kd.R_new' (Kd.R_newM (M := fun k_ => (w.heap.size ≤ k_)) ho0 (below_size (by exact zB HB)) (fun k_ h_ => h_)) (Kd.R_lt (by exact zR HO337))) (below_size (by exact zB HB))); replace HO337 := zA (Kd.R_elder' (by exact zR HO337) (Kd.R_base ho0) hb); replace HB := zA (below_step (by exact zB HB) hb); (try clear hb ho0)) | ((with_reducible refine gate_dst (N := 25) rfl ?_); refine Kd.N_make k52 _ 52 rfl (N' := 25) rfl 40 _ _ rfl ji6 rfl rfl Try.underlying40 (.agg #[(.bool false), (.slice none 0 0), (.slice none 0 0)]) 56 info52 rfl (by decide) (by omega) z52 (ok := fun k_ => w11.heap.size ≤ k_) (okp := fun _ => False) (k52_mkF _ _ z52 (Nat.le_refl _) (Kd.F_nil _ _ _) (Nat.le_refl _) (Kd.F_nil _ _ _)) (fun _ hk => hk.elim) (Nat.le_refl _) (of_decide_eq_true (by assumption)) (Nat.le_trans (Nat.mul_le_mul_right _ (of_decide_eq_true (by assumption) : ji6.toNat ≤ 5026338869833)) (by omega)) (Below.refl _ _) (Nat.le_refl _) ?_; intro v343 w12 ho13 hb hg_ hnew_; clear hg_ hnew_; (first | rw [← Ny342.out] at ho13 | (simp only [Int.reduceToNat] at ho13; rw [← Ny342.out] at ho13)); have HO344 := zA (Kd.N_lower (Kd.N_mono (ok' := fun k_ => (w.heap.size ≤ k_) ∧ some k_ ≠ (.slice Ao10 t335.length co10 : Value).ownBlock ∧ some k_ ≠ (v340 : Value).ownBlock) ho13 (fun k_ hk_ => ⟨(Nat.le_trans (below_size (by exact zB HB)) hk_), (Kd.fresh' (Kd.R_lt (by exact zR HO337)) k_ hk_), (Kd.fresh' (Kd.R_lt (by exact zR HO341)) k_ hk_)⟩)) (below_size (by exact zB HB))); replace HO337 := zA (Kd.R_below (by exact zR HO337) hb); replace HO341 := zA (Kd.R_below (by exact zR HO341) hb); replace HB := zA (below_step (by exact zB HB) hb); clear hb ho13))
   go_loopg [27] k (fun kq v27 w' => ∃ (x9_1 : List (S52)) (x27_1 : Int), v27 = .int .i64 x27_1 ∧ Aside0 (channel_pattern.l0 kq a1 a2 t338 x9_1 a2 x27_1 = some r) ∧ Aside0 (kq ≤ k) ∧ Aside0 (Kd.R (Kd.int .u32) 79 w' w.heap.size (fun k_ => (w.heap.size ≤ k_)) v340 t338) ∧ Aside0 (Kd.N k52 52 w' w.heap.size (fun k_ => (w.heap.size ≤ k_)) v343 x9_1) ∧ Aside0 (Below w.heap.size w w'))
   case atStart => exact ⟨(y342), (0), (by first | rfl | (simp; done) | (simp [*]; done)), H', ⟨Nat.le_refl _⟩, ⟨by (with_reducible repeat (first | apply Kd.R_alloc | apply Kd.R_drewN | apply Kd.R_drew)); exact Kd.R_mono HO341.out (fun _ hk => hk.1.1)⟩, ⟨by (with_reducible repeat (first | apply Kd.N_alloc | apply Kd.N_drewN | apply Kd.N_drew)); exact Kd.N_mono HO344.out (fun _ hk => hk.1)⟩, ⟨by exact zB HB⟩⟩
   case round =>
    clear H'
    try clear p2
    try clear c6
    try clear p6
    try clear c7
    try clear c7b0
    try clear c7b1
    try clear c8
    try clear c8b0
    try clear c8b1
    try clear c9
    obtain ⟨x9_1, x27_1, rfl, HA, HK1, HO_7, HO_9, HB⟩ := hrel
    cases gk with
    | zero => exact absurd HA.out (by simp [channel_pattern.l0])
    | succ k1 =>
     have H := HA.out
     clear HA
     simp only [channel_pattern.l0] at H
     by_cases c14 : x27_1 < a2
     ·
      rw [if_pos c14] at H
      have c14b0 : decide (x27_1 < a2) = true := decide_eq_true c14
      clear c14
      replace H := Option.bind_eq_some_iff.mp H
      obtain ⟨⟨t345, t346, t349⟩, A150, H⟩ := H
      replace H : (if 0 ≤ x27_1 then (if x27_1 < (x9_1.length : Int) then (channel_pattern.l0 k1 a1 a2 t338 (x9_1.set (x27_1 : Int).toNat (⟨t345, t346, t349⟩ : S52)) a2 (wrap64 (x27_1 + 1))) else (none)) else (none)) = some r := H
      have A15 := zA A150
      clear A150
      by_cases c16 : 0 ≤ x27_1
      ·
       rw [if_pos c16] at H
       have c16b0 : decide (0 ≤ x27_1) = true := decide_eq_true c16
       clear c16
       by_cases c17 : x27_1 < (x9_1.length : Int)
       ·
        rw [if_pos c17] at H
        have c17b0 : decide (x27_1 < (x9_1.length : Int)) = true := decide_eq_true c17
        clear c17
        obtain ⟨y352, hy352⟩ : ∃ y_ : List (S52), y_ = (x9_1.set (x27_1 : Int).toNat (⟨t345, t346, t349⟩ : S52)) := ⟨_, rfl⟩
        replace H : (channel_pattern.l0 k1 a1 a2 t338 y352 a2 (wrap64 (x27_1 + 1))) = some r := by first | (rw [hy352]; with_reducible exact H) | (have H := (Option.bind_some _ _).symm.trans H; first | (rw [hy352]; with_reducible exact H) | with_reducible exact H) | (rw [hy352]; exact H) | exact H
        have Ny352 := zA hy352
        clear hy352
        have H' := zA H
        clear H
        go_wp2_with (first | ((with_reducible refine gate_callee (f := 75) rfl ?_); refine goesL_ (some 32) rfl rfl Try.func75 (by kernel_rfl) rfl #[] rfl (by (try simp only [List.map_toArray, List.map_cons, List.map_nil]); first | done | rfl | (simp only [List.length_drop, List.length_take]; rfl)) ?_; (with_reducible refine (channel_zero.calls  t345 t346 t349 _ A15.out).mono ?_); rintro e w19 ⟨v347, v350, rfl, ho0, ho1, hb⟩; refine ⟨_, rfl, ?_⟩; replace HO_9 := zA (Kd.N_mono (Kd.N_told (Kd.N_told (Kd.N_old (by exact zN HO_9) hb) (Kd.R_base ho0)) (Kd.R_base ho1)) (fun _ h_ => h_.1)); have HO348 := zA (Kd.R_lower (Kd.R_new' (Kd.R_newM (M := fun k_ => (w.heap.size ≤ k_)) ho0 (below_size (by exact zB HB)) (fun k_ h_ => h_)) (Kd.R_lt (by exact zR HO_7))) (below_size (by exact zB HB))); have HO351 := zA (Kd.R_lower (Kd.R_new' (Kd.R_newM (M := fun k_ => (w.heap.size ≤ k_)) ho1 (below_size (by exact zB HB)) (fun k_ h_ => h_)) (Kd.R_lt (by exact zR HO_7))) (below_size (by exact zB HB))); replace HO_7 := zA (Kd.R_mono (Kd.R_told (Kd.R_told (Kd.R_old (by exact zR HO_7) hb) (Kd.R_base ho0)) (Kd.R_base ho1)) (fun _ h_ => h_.1)); replace HB := zA (below_step (by exact zB HB) hb); (try clear hb ho0 ho1); have p18 : 0 ≤ (x27_1 : Int) := of_decide_eq_true (by assumption); have q18 : (x27_1 : Int) < ((x9_1.length : Int) : Int) := of_decide_eq_true (by assumption); obtain ⟨go18, co18, eo18, gb18, gl18, cl18, HG18⟩ := Kd.N_form HO_9.out (by omega); (first | cases eo18 | (injection eo18 with ea_ en_ ec_; (first | subst ea_ | (injection ea_ with ea_; subst ea_)); subst ec_; clear en_)); have GB18 := zA gb18; have GG18 := zA HG18; clear gb18 gl18 HG18; obtain ⟨ce18, hcl18, hM18, hcc18, hfr18⟩ := Kd.N_elem HO_9.out z52 (x27_1 : Int) p18 q18; obtain ⟨ua18_1, uc18_1, ua18_2, uc18_2, rfl, ul18_1, ge18_1, ul18_2, ge18_2⟩ := k52_openF hM18; have hx18_0 : w19.cell? ⟨go18, (x27_1 : Int).toNat * 3, none⟩ = some (.bool ((rd_T52 x9_1 x27_1).f0)) := hcc18 0 _ rfl; have hx18_1 : w19.cell? ⟨go18, (x27_1 : Int).toNat * 3 + 1, none⟩ = some (.slice ua18_1 ((rd_T52 x9_1 x27_1).f1).length uc18_1) := hcc18 1 _ rfl; have hx18_2 : w19.cell? ⟨go18, (x27_1 : Int).toNat * 3 + 2, none⟩ = some (.slice ua18_2 ((rd_T52 x9_1 x27_1).f2).length uc18_2) := hcc18 2 _ rfl; have hf18_0 : w19.frozen? ⟨go18, (x27_1 : Int).toNat * 3, none⟩ = false := hfr18 0; have hf18_1 : w19.frozen? ⟨go18, (x27_1 : Int).toNat * 3 + 1, none⟩ = false := hfr18 1; have hf18_2 : w19.frozen? ⟨go18, (x27_1 : Int).toNat * 3 + 2, none⟩ = false := hfr18 2; clear hcl18 hcc18 hfr18 hM18; replace p18 := eq_true p18; replace q18 := eq_true q18; have n_ := zA (Kd.N_mono (ok' := (fun k_ => (w.heap.size ≤ k_) ∧ some k_ ≠ (v347 : Value).ownBlock ∧ some k_ ≠ (v350 : Value).ownBlock)) HO_9.out (fun k_ hk => ⟨hk.1.1, ⟨hk.1.2, hk.2⟩⟩)); clear HO_9; have HO_9 := n_; clear n_; obtain ⟨Ao22, co22, eo22⟩ := Kd.R_slice HO348.out; subst eo22; obtain ⟨Ao23, co23, eo23⟩ := Kd.R_slice HO351.out; subst eo23; have HX20 := zA (show Kd.N k52 52 w19 w.heap.size (fun k_ => (w.heap.size ≤ k_)) (.slice (some ⟨go18, 0, none⟩) x9_1.length co18) x9_1 from (by (with_reducible repeat (first | apply Kd.N_alloc | apply Kd.N_drewN | apply Kd.N_drew)); exact Kd.N_mono HO_9.out (fun _ hk => hk.1))); obtain ⟨ce20, hcl20, hM20, hcc20, hfr20⟩ := Kd.N_elem HX20.out z52 (x27_1 : Int) (of_decide_eq_true (by assumption)) (by have h_ : (x27_1 : Int) < ((x9_1.length : Int) : Int) := of_decide_eq_true (by assumption); first | exact h_ | (have e_ := (Kd.N_reads' HO_9.out).1; omega) | simpa using h_); obtain ⟨ua20_1, uc20_1, ua20_2, uc20_2, rfl, ul20_1, ge20_1, ul20_2, ge20_2⟩ := k52_openF hM20; have HP20 := Kd.N_seg HX20.out (x27_1 : Int) (of_decide_eq_true (by assumption)) (by have h_ : (x27_1 : Int) < ((x9_1.length : Int) : Int) := of_decide_eq_true (by assumption); first | exact h_ | (have e_ := (Kd.N_reads' HO_9.out).1; omega) | simpa using h_) (seg := [.bool t345, .slice Ao22 t346.length co22, .slice Ao23 t349.length co23]) (j := 0) hcl20 hcc20 (show 3 ≤ 3 from by decide) (x' := (⟨t345, t346, t349⟩ : S52)) (k52_mkF _ _ (⟨t345, t346, t349⟩ : S52) (Kd.R_reads' (Kd.R_mono (ok' := (fun k_ => ((fun k_ => (w.heap.size ≤ k_))) k_ ∧ k_ ≠ go18)) (Kd.R_apart' (HO348.out) (Kd.N_typed HO_9.out) (by decide)) (fun k_ hk => ⟨hk.1.1.1, fun e_ => (hk.2) (by rw [e_]; rfl)⟩))).2.1 (Kd.R_F (Kd.R_mono (ok' := (fun k_ => ((fun k_ => (w.heap.size ≤ k_))) k_ ∧ k_ ≠ go18)) (Kd.R_apart' (HO348.out) (Kd.N_typed HO_9.out) (by decide)) (fun k_ hk => ⟨hk.1.1.1, fun e_ => (hk.2) (by rw [e_]; rfl)⟩))) (Kd.R_reads' (Kd.R_mono (ok' := (fun k_ => ((fun k_ => (w.heap.size ≤ k_))) k_ ∧ k_ ≠ go18)) (Kd.R_apart' (HO351.out) (Kd.N_typed HO_9.out) (by decide)) (fun k_ hk => ⟨hk.1.1.1, fun e_ => (hk.2) (by rw [e_]; rfl)⟩))).2.1 (Kd.R_F (Kd.R_mono (ok' := (fun k_ => ((fun k_ => (w.heap.size ≤ k_))) k_ ∧ k_ ≠ go18)) (Kd.R_apart' (HO351.out) (Kd.N_typed HO_9.out) (by decide)) (fun k_ hk => ⟨hk.1.1.1, fun e_ => (hk.2) (by rw [e_]; rfl)⟩)))) (fun _ hk => hk); have hx20_0 := hcc20 0 _ rfl; (try simp only [show (k52).sz = 3 from rfl, Nat.mul_one, Nat.add_zero] at hx20_0); have hf20_0 := hfr20 0; (try simp only [show (k52).sz = 3 from rfl, Nat.mul_one, Nat.add_zero] at hf20_0); have hx20_1 := hcc20 1 _ rfl; (try simp only [show (k52).sz = 3 from rfl, Nat.mul_one, Nat.add_zero] at hx20_1); have hf20_1 := hfr20 1; (try simp only [show (k52).sz = 3 from rfl, Nat.mul_one, Nat.add_zero] at hf20_1); have hx20_2 := hcc20 2 _ rfl; (try simp only [show (k52).sz = 3 from rfl, Nat.mul_one, Nat.add_zero] at hx20_2); have hf20_2 := hfr20 2; (try simp only [show (k52).sz = 3 from rfl, Nat.mul_one, Nat.add_zero] at hf20_2); clear hcl20 hcc20 hfr20 hM20) | ((with_reducible refine gate_store (t := 52) (p := 33) rfl ?_); refine store_event (t := 52) (p := 33) (v := ?vo_w21) (w1 := (((w19.setCell ⟨go18, (x27_1 : Int).toNat * 3, none⟩ (.bool t345)).setCell ⟨go18, (x27_1 : Int).toNat * 3 + 1, none⟩ (.slice Ao22 t346.length co22)).setCell ⟨go18, (x27_1 : Int).toNat * 3 + 2, none⟩ (.slice Ao23 t349.length co23))) ?hg ?ho ?hn ?hr ?_; (case ho => rfl); (case hg => rfl); (case hn => rfl); (case hr => first | (go_simp; done) | (go_simp; rfl)); intro w21 hw; have hg : w19.grownBy w21 (some go18) := (by rw [hw]; exact HP20.2); have hp_ : Kd.N k52 52 w21 w.heap.size (fun k_ => (w.heap.size ≤ k_)) (.slice (some ⟨go18, 0, none⟩) x9_1.length co18) y352 := (by rw [hw, Ny352.out]; exact HP20.1); clear HP20; have n0_ := zA (Kd.R_over' (v := (.slice (some ⟨go18, 0, none⟩) x9_1.length co18)) (by exact zR HO_7) (Kd.N_typed HO_9.out) (by decide) hg); have n1_ := zA (hp_); have n2_ := zA ((by rw [hw]; exact below_set (below_set (below_set (HB.out) GB18.out) GB18.out) GB18.out : Below w.heap.size w w21)); clear HO_7; clear HO_9; clear HB; clear HO348; clear HO351; have HO_7 := n0_; have HO_9 := n1_; have HB := n2_; clear n0_ n1_ n2_; clear hg hw hp_))
        go_roundg k1
        case measure => have := HK1.out; omega
        case rel => exact ⟨(y352), (wrap64 (x27_1 + 1)), (by first | rfl | (simp; done) | (simp [*]; done)), H', ⟨by have := HK1.out; omega⟩, ⟨by (with_reducible repeat (first | apply Kd.R_alloc | apply Kd.R_drewN | apply Kd.R_drew)); exact Kd.R_mono HO_7.out (fun _ hk => hk.1.1)⟩, ⟨by exact zN HO_9⟩, ⟨by exact zB HB⟩⟩
       ·
        rw [if_neg c17] at H
        exact absurd H (by simp)
      ·
       rw [if_neg c16] at H
       exact absurd H (by simp)
     ·
      rw [if_neg c14] at H
      have c14b0 : decide (x27_1 < a2) = false := decide_eq_false c14
      clear c14
      have H' := zA H
      clear H
      go_wp2
      go_loopg [11] k1 (fun kq v11 w' => ∃ (x9_2 : List (S52)) (x11_2 : Int), v11 = .int .i64 x11_2 ∧ Aside0 (channel_pattern.l1 kq a1 a2 t338 x9_2 x11_2 = some r) ∧ Aside0 (kq ≤ k1) ∧ Aside0 (Kd.R (Kd.int .u32) 79 w' w.heap.size (fun k_ => (w.heap.size ≤ k_)) v340 t338) ∧ Aside0 (Kd.N k52 52 w' w.heap.size (fun k_ => (w.heap.size ≤ k_)) v343 x9_2) ∧ Aside0 (Below w.heap.size w w'))
      case atStart => exact ⟨(x9_1), (0), (by first | rfl | (simp; done) | (simp [*]; done)), H', ⟨Nat.le_refl _⟩, ⟨by exact zR HO_7⟩, ⟨by exact zN HO_9⟩, ⟨by exact zB HB⟩⟩
      case round =>
       clear H'
       try clear c1
       try clear p1
       try clear q1
       try clear hx1
       try clear c2
       try clear p2
       try clear hx2
       try clear c6
       try clear p6
       try clear c7
       try clear c7b0
       try clear c7b1
       try clear c8
       try clear c8b0
       try clear c8b1
       try clear c9
       try clear c14
       try clear c14b0
       try clear c16
       try clear c16b0
       try clear c17
       try clear c17b0
       try clear c18
       try clear p18
       try clear q18
       try clear hx18
       try clear hf18
       try clear c20
       try clear hx20
       try clear hf20
       try clear hx18_0
       try clear hx18_1
       try clear hx18_2
       try clear hx20_0
       try clear hx20_1
       try clear hx20_2
       try clear p18
       try clear p2
       try clear p6
       try clear q18
       obtain ⟨x9_2, x11_2, rfl, HA, HK2, HO_7, HO_9, HB⟩ := hrel
       cases gk with
       | zero => exact absurd HA.out (by simp [channel_pattern.l1])
       | succ k2 =>
        have H := HA.out
        clear HA
        simp only [channel_pattern.l1] at H
        by_cases c24 : (wrap64 (a2 + x11_2)) ≤ a1
        ·
         rw [if_pos c24] at H
         have c24b0 : decide ((wrap64 (a2 + x11_2)) ≤ a1) = true := decide_eq_true c24
         clear c24
         replace H := Option.bind_eq_some_iff.mp H
         obtain ⟨⟨t353, t354⟩, A250, H⟩ := H
         replace H : ((rational_Trim.f k2 ((Int.tmod x11_2 2) == 1) t353 t338).bind fun bt357 => (if 0 ≤ (wrap64 (a2 + x11_2)) then (if (wrap64 (a2 + x11_2)) < (x9_2.length : Int) then (channel_pattern.l1 k2 a1 a2 t338 (x9_2.set ((wrap64 (a2 + x11_2)) : Int).toNat (⟨bt357.1, bt357.2.1, bt357.2.2⟩ : S52)) (wrap64 (x11_2 + 1))) else (none)) else (none))) = some r := H
         have A25 := zA A250
         clear A250
         replace H := Option.bind_eq_some_iff.mp H
         obtain ⟨⟨t357, t358, t361⟩, A260, H⟩ := H
         replace H : (if 0 ≤ (wrap64 (a2 + x11_2)) then (if (wrap64 (a2 + x11_2)) < (x9_2.length : Int) then (channel_pattern.l1 k2 a1 a2 t338 (x9_2.set ((wrap64 (a2 + x11_2)) : Int).toNat (⟨t357, t358, t361⟩ : S52)) (wrap64 (x11_2 + 1))) else (none)) else (none)) = some r := H
         have A26 := zA A260
         clear A260
         obtain ⟨ji27, hji27⟩ : ∃ j_ : Int, (wrap64 (a2 + x11_2)) = j_ := ⟨_, rfl⟩
         replace H : (if 0 ≤ (ji27) then (if (ji27) < (x9_2.length : Int) then (channel_pattern.l1 k2 a1 a2 t338 (x9_2.set ((ji27) : Int).toNat (⟨t357, t358, t361⟩ : S52)) (wrap64 (x11_2 + 1))) else (none)) else (none)) = some r := by first | (rw [hji27] at H; exact H) | (simp only [hji27] at H ⊢; exact H)
         (try rw [hji27] at c24b0)
         (try rw [hji27] at A25)
         (try rw [hji27] at A26)
         have hji27w : (IntKind.i64.wrap (a2 + x11_2)) = ji27 := (i64_w _).trans hji27
         by_cases c28 : 0 ≤ (ji27)
         ·
          rw [if_pos c28] at H
          have c28b0 : decide (0 ≤ (ji27)) = true := decide_eq_true c28
          clear c28
          by_cases c29 : (ji27) < (x9_2.length : Int)
          ·
           rw [if_pos c29] at H
           have c29b0 : decide ((ji27) < (x9_2.length : Int)) = true := decide_eq_true c29
           clear c29
           obtain ⟨y364, hy364⟩ : ∃ y_ : List (S52), y_ = (x9_2.set ((ji27) : Int).toNat (⟨t357, t358, t361⟩ : S52)) := ⟨_, rfl⟩
           replace H : (channel_pattern.l1 k2 a1 a2 t338 y364 (wrap64 (x11_2 + 1))) = some r := by first | (rw [hy364]; with_reducible exact H) | (have H := (Option.bind_some _ _).symm.trans H; first | (rw [hy364]; with_reducible exact H) | with_reducible exact H) | (rw [hy364]; exact H) | exact H
           have Ny364 := zA hy364
           clear hy364
           have H' := zA H
           clear H
           go_wp2_with (first | ((with_reducible refine gate_callee (f := 99) rfl ?_); refine goesL_ (some 47) rfl rfl Try.func99 (by kernel_rfl) rfl #[.int .i64 (wrap64 (a1 - a2)), .int .i64 x11_2] rfl (by (try simp only [List.map_toArray, List.map_cons, List.map_nil]); first | done | rfl | (simp only [List.length_drop, List.length_take]; rfl)) ?_; (with_reducible refine (nat_Binomial.calls k2 (wrap64 (a1 - a2)) x11_2 t353 t354 _ A25.out).mono ?_); rintro e w31 ⟨v355, rfl, ho0, hb⟩; refine ⟨_, rfl, ?_⟩; replace HO_9 := zA (Kd.N_elder' (by exact zN HO_9) (Kd.R_base ho0) hb); have HO356 := zA (Kd.R_lower (Kd.R_new' (Kd.R_newM (M := fun k_ => (w.heap.size ≤ k_)) ho0 (below_size (by exact zB HB)) (fun k_ h_ => h_)) (Kd.R_lt (by exact zR HO_7))) (below_size (by exact zB HB))); replace HO_7 := zA (Kd.R_elder' (by exact zR HO_7) (Kd.R_base ho0) hb); replace HB := zA (below_step (by exact zB HB) hb); (try clear hb ho0); obtain ⟨Ao32, co32, eo32⟩ := Kd.R_slice HO_7.out; subst eo32; obtain ⟨Ao33, co33, eo33⟩ := Kd.R_slice HO356.out; subst eo33) | ((with_reducible refine gate_callee (f := 100) rfl ?_); refine goesL_ (some 60) rfl rfl Try.func100 (by kernel_rfl) rfl #[.agg #[.bool ((Int.tmod x11_2 2) == 1), .slice Ao33 t353.length co33, .slice Ao32 t338.length co32]] rfl (by (try simp only [List.map_toArray, List.map_cons, List.map_nil]); first | done | rfl | (simp only [List.length_drop, List.length_take]; rfl)) ?_; (with_reducible refine (rational_Trim.calls k2 ((Int.tmod x11_2 2) == 1) (fun k_ => some k_ = (.slice Ao33 t353.length co33 : Value).ownBlock) _ _ t353 (fun k_ => some k_ = (.slice Ao32 t338.length co32 : Value).ownBlock) _ _ t338 t357 t358 t361 _ ?side1 ?side2 A26.out).mono ?_); (case side1 => exact Kd.R_V (Kd.R_tight rfl (Kd.R_apart' (HO356.out) (Kd.N_typed HO_9.out) (by decide)))); (case side2 => exact Kd.R_V (Kd.R_tight rfl (Kd.R_apart' (HO_7.out) (Kd.N_typed HO_9.out) (by decide)))); rintro e w34 ⟨v359, v362, rfl, ho0, ho1, hb⟩; refine ⟨_, rfl, ?_⟩; have HO360 := zA (Kd.V_lower (Kd.V_mono (ok' := fun k_ => (w.heap.size ≤ k_) ∧ some k_ ≠ (v343 : Value).ownBlock) ho0 (fun k_ hk_ => ⟨Or.elim hk_ (fun hs_ => Or.elim hs_ (fun hs_ => ((Kd.R_apart' (HO356.out) (Kd.N_typed HO_9.out) (by decide)).1 k_ hs_.symm).1.1.1) (fun hs_ => ((Kd.R_apart' (HO_7.out) (Kd.N_typed HO_9.out) (by decide)).1 k_ hs_.symm).1.1)) (fun hn_ => (Nat.le_trans (below_size (by exact zB HB)) hn_)), Or.elim hk_ (fun hs_ => Or.elim hs_ (fun hs_ => ((Kd.R_apart' (HO356.out) (Kd.N_typed HO_9.out) (by decide)).1 k_ hs_.symm).2) (fun hs_ => ((Kd.R_apart' (HO_7.out) (Kd.N_typed HO_9.out) (by decide)).1 k_ hs_.symm).2)) (fun hn_ => (Kd.fresh' (Kd.N_lt (by exact zN HO_9)) k_ hn_))⟩)) (below_size (by exact zB HB))); have HO363 := zA (Kd.V_lower (Kd.V_mono (ok' := fun k_ => (w.heap.size ≤ k_) ∧ some k_ ≠ (v343 : Value).ownBlock) ho1 (fun k_ hk_ => ⟨Or.elim hk_ (fun hs_ => Or.elim hs_ (fun hs_ => ((Kd.R_apart' (HO356.out) (Kd.N_typed HO_9.out) (by decide)).1 k_ hs_.symm).1.1.1) (fun hs_ => ((Kd.R_apart' (HO_7.out) (Kd.N_typed HO_9.out) (by decide)).1 k_ hs_.symm).1.1)) (fun hn_ => (Nat.le_trans (below_size (by exact zB HB)) hn_)), Or.elim hk_ (fun hs_ => Or.elim hs_ (fun hs_ => ((Kd.R_apart' (HO356.out) (Kd.N_typed HO_9.out) (by decide)).1 k_ hs_.symm).2) (fun hs_ => ((Kd.R_apart' (HO_7.out) (Kd.N_typed HO_9.out) (by decide)).1 k_ hs_.symm).2)) (fun hn_ => (Kd.fresh' (Kd.N_lt (by exact zN HO_9)) k_ hn_))⟩)) (below_size (by exact zB HB))); replace HO_7 := zA (Kd.R_below (by exact zR HO_7) hb); replace HO_9 := zA (Kd.N_below (by exact zN HO_9) hb); replace HO356 := zA (Kd.R_below (by exact zR HO356) hb); replace HB := zA (below_step (by exact zB HB) hb); (try clear hb ho0 ho1); have p30 : 0 ≤ ((ji27) : Int) := of_decide_eq_true (by assumption); have q30 : ((ji27) : Int) < ((x9_2.length : Int) : Int) := of_decide_eq_true (by assumption); obtain ⟨go30, co30, eo30, gb30, gl30, cl30, HG30⟩ := Kd.N_form HO_9.out (by omega); (first | cases eo30 | (injection eo30 with ea_ en_ ec_; (first | subst ea_ | (injection ea_ with ea_; subst ea_)); subst ec_; clear en_)); have GB30 := zA gb30; have GG30 := zA HG30; clear gb30 gl30 HG30; obtain ⟨ce30, hcl30, hM30, hcc30, hfr30⟩ := Kd.N_elem HO_9.out z52 ((ji27) : Int) p30 q30; obtain ⟨ua30_1, uc30_1, ua30_2, uc30_2, rfl, ul30_1, ge30_1, ul30_2, ge30_2⟩ := k52_openF hM30; have hx30_0 : w34.cell? ⟨go30, ((ji27) : Int).toNat * 3, none⟩ = some (.bool ((rd_T52 x9_2 (ji27)).f0)) := hcc30 0 _ rfl; have hx30_1 : w34.cell? ⟨go30, ((ji27) : Int).toNat * 3 + 1, none⟩ = some (.slice ua30_1 ((rd_T52 x9_2 (ji27)).f1).length uc30_1) := hcc30 1 _ rfl; have hx30_2 : w34.cell? ⟨go30, ((ji27) : Int).toNat * 3 + 2, none⟩ = some (.slice ua30_2 ((rd_T52 x9_2 (ji27)).f2).length uc30_2) := hcc30 2 _ rfl; have hf30_0 : w34.frozen? ⟨go30, ((ji27) : Int).toNat * 3, none⟩ = false := hfr30 0; have hf30_1 : w34.frozen? ⟨go30, ((ji27) : Int).toNat * 3 + 1, none⟩ = false := hfr30 1; have hf30_2 : w34.frozen? ⟨go30, ((ji27) : Int).toNat * 3 + 2, none⟩ = false := hfr30 2; clear hcl30 hcc30 hfr30 hM30; replace p30 := eq_true p30; replace q30 := eq_true q30; obtain ⟨Ao37, co37, eo37⟩ := Kd.V_slice HO360.out; subst eo37; obtain ⟨Ao38, co38, eo38⟩ := Kd.V_slice HO363.out; subst eo38; have HX35 := zA (show Kd.N k52 52 w34 w.heap.size (fun k_ => (w.heap.size ≤ k_)) (.slice (some ⟨go30, 0, none⟩) x9_2.length co30) x9_2 from (by (with_reducible repeat (first | apply Kd.N_alloc | apply Kd.N_drewN | apply Kd.N_drew)); exact Kd.N_mono HO_9.out (fun _ hk => hk.1))); obtain ⟨ce35, hcl35, hM35, hcc35, hfr35⟩ := Kd.N_elem HX35.out z52 ((ji27) : Int) (of_decide_eq_true (by assumption)) (by have h_ : ((ji27) : Int) < ((x9_2.length : Int) : Int) := of_decide_eq_true (by assumption); first | exact h_ | (have e_ := (Kd.N_reads' HO_9.out).1; omega) | simpa using h_); obtain ⟨ua35_1, uc35_1, ua35_2, uc35_2, rfl, ul35_1, ge35_1, ul35_2, ge35_2⟩ := k52_openF hM35; have HP35 := Kd.N_seg HX35.out ((ji27) : Int) (of_decide_eq_true (by assumption)) (by have h_ : ((ji27) : Int) < ((x9_2.length : Int) : Int) := of_decide_eq_true (by assumption); first | exact h_ | (have e_ := (Kd.N_reads' HO_9.out).1; omega) | simpa using h_) (seg := [.bool t357, .slice Ao37 t358.length co37, .slice Ao38 t361.length co38]) (j := 0) hcl35 hcc35 (show 3 ≤ 3 from by decide) (x' := (⟨t357, t358, t361⟩ : S52)) (k52_mkF _ _ (⟨t357, t358, t361⟩ : S52) (Kd.V_reads' (Kd.V_mono (ok' := (fun k_ => ((fun k_ => (w.heap.size ≤ k_))) k_ ∧ k_ ≠ go30)) (HO360.out) (fun k_ hk => ⟨hk.1, fun e_ => (hk.2) (by rw [e_]; rfl)⟩))).2.1 (Kd.V_F (Kd.V_mono (ok' := (fun k_ => ((fun k_ => (w.heap.size ≤ k_))) k_ ∧ k_ ≠ go30)) (HO360.out) (fun k_ hk => ⟨hk.1, fun e_ => (hk.2) (by rw [e_]; rfl)⟩))) (Kd.V_reads' (Kd.V_mono (ok' := (fun k_ => ((fun k_ => (w.heap.size ≤ k_))) k_ ∧ k_ ≠ go30)) (HO363.out) (fun k_ hk => ⟨hk.1, fun e_ => (hk.2) (by rw [e_]; rfl)⟩))).2.1 (Kd.V_F (Kd.V_mono (ok' := (fun k_ => ((fun k_ => (w.heap.size ≤ k_))) k_ ∧ k_ ≠ go30)) (HO363.out) (fun k_ hk => ⟨hk.1, fun e_ => (hk.2) (by rw [e_]; rfl)⟩)))) (fun _ hk => hk); have hx35_0 := hcc35 0 _ rfl; (try simp only [show (k52).sz = 3 from rfl, Nat.mul_one, Nat.add_zero] at hx35_0); have hf35_0 := hfr35 0; (try simp only [show (k52).sz = 3 from rfl, Nat.mul_one, Nat.add_zero] at hf35_0); have hx35_1 := hcc35 1 _ rfl; (try simp only [show (k52).sz = 3 from rfl, Nat.mul_one, Nat.add_zero] at hx35_1); have hf35_1 := hfr35 1; (try simp only [show (k52).sz = 3 from rfl, Nat.mul_one, Nat.add_zero] at hf35_1); have hx35_2 := hcc35 2 _ rfl; (try simp only [show (k52).sz = 3 from rfl, Nat.mul_one, Nat.add_zero] at hx35_2); have hf35_2 := hfr35 2; (try simp only [show (k52).sz = 3 from rfl, Nat.mul_one, Nat.add_zero] at hf35_2); clear hcl35 hcc35 hfr35 hM35) | ((with_reducible refine gate_store (t := 52) (p := 61) rfl ?_); refine store_event (t := 52) (p := 61) (v := ?vo_w36) (w1 := (((w34.setCell ⟨go30, ((ji27) : Int).toNat * 3, none⟩ (.bool t357)).setCell ⟨go30, ((ji27) : Int).toNat * 3 + 1, none⟩ (.slice Ao37 t358.length co37)).setCell ⟨go30, ((ji27) : Int).toNat * 3 + 2, none⟩ (.slice Ao38 t361.length co38))) ?hg ?ho ?hn ?hr ?_; (case ho => rfl); (case hg => rfl); (case hn => rfl); (case hr => first | (go_simp; done) | (go_simp; rfl)); intro w36 hw; have hg : w34.grownBy w36 (some go30) := (by rw [hw]; exact HP35.2); have hp_ : Kd.N k52 52 w36 w.heap.size (fun k_ => (w.heap.size ≤ k_)) (.slice (some ⟨go30, 0, none⟩) x9_2.length co30) y364 := (by rw [hw, Ny364.out]; exact HP35.1); clear HP35; replace HO_7 := zA (Kd.R_over' (v := (.slice (some ⟨go30, 0, none⟩) x9_2.length co30)) (by exact zR HO_7) (Kd.N_typed HO_9.out) (by decide) hg); replace HO356 := zA (Kd.R_over' (v := (.slice (some ⟨go30, 0, none⟩) x9_2.length co30)) (by exact zR HO356) (Kd.N_typed HO_9.out) (by decide) hg); replace HO_9 := zA (hp_); replace HO360 := zA (Kd.V_afterv (v := (.slice (some ⟨go30, 0, none⟩) x9_2.length co30)) (v1 := (.slice (some ⟨go30, 0, none⟩) x9_2.length co30)) (ok := (fun k_ => (w.heap.size ≤ k_))) (by exact zV HO360) hg (.inl rfl)); replace HO363 := zA (Kd.V_afterv (v := (.slice (some ⟨go30, 0, none⟩) x9_2.length co30)) (v1 := (.slice (some ⟨go30, 0, none⟩) x9_2.length co30)) (ok := (fun k_ => (w.heap.size ≤ k_))) (by exact zV HO363) hg (.inl rfl)); replace HB := zA ((by rw [hw]; exact below_set (below_set (below_set (HB.out) GB30.out) GB30.out) GB30.out : Below w.heap.size w w36)); clear hg hw hp_))
           go_roundg k2
           case measure => have := HK1.out; have := HK2.out; omega
           case rel => exact ⟨(y364), (wrap64 (x11_2 + 1)), (by first | rfl | (simp; done) | (simp [*]; done)), H', ⟨by have := HK1.out; have := HK2.out; omega⟩, ⟨by (with_reducible repeat (first | apply Kd.R_alloc | apply Kd.R_drewN | apply Kd.R_drew)); exact Kd.R_mono HO_7.out (fun _ hk => hk.1)⟩, ⟨by exact zN HO_9⟩, ⟨by exact zB HB⟩⟩
          ·
           rw [if_neg c29] at H
           exact absurd H (by simp)
         ·
          rw [if_neg c28] at H
          exact absurd H (by simp)
        ·
         rw [if_neg c24] at H
         have c24b0 : decide ((wrap64 (a2 + x11_2)) ≤ a1) = false := decide_eq_false c24
         clear c24
         obtain rfl := Option.some.inj H
         go_wp2
         go_ret
         exact ⟨_, by first | rfl | (simp [errW_none, errW_some] <;> rfl) | (simp only [← hji6]; first | rfl | (simp [errW_none, errW_some] <;> rfl)) | (simp [*, errW_none, errW_some] <;> rfl), by exact zN HO_9, by exact zB HB⟩
  ·
   rw [if_neg c8] at H
   exact absurd H (by simp)
 ·
  rw [if_neg c7] at H
  exact absurd H (by simp)
/-! ### channel_Pattern: function 19 -/
def channel_Pattern.f (k : Nat) (a0 : Int) (a1 : Int) (a2 : Int) : Option ((List (S52)) × Int) := if a0 < 2 then (some (([] : List (S52)), 6)) else (if a0 > 256 then (some (([] : List (S52)), 6)) else (if a1 < 0 then (some (([] : List (S52)), 6)) else (if a1 > 64 then (some (([] : List (S52)), 6)) else (if a2 < 0 then (some (([] : List (S52)), 6)) else (if a2 > a1 then (some (([] : List (S52)), 6)) else ((channel_pattern.f k a0 a1 a2).bind fun t365 => (some (t365, 0))))))))
set_option maxHeartbeats 8000000 in
set_option maxRecDepth 100000 in
theorem channel_Pattern.calls (k : Nat) (a0 : Int) (a1 : Int) (a2 : Int) (r1 : List (S52)) (r2 : Int) (w : World) (h : channel_Pattern.f k a0 a1 a2 = some (r1, r2)) :
  Calls Try.prog 19 #[.int .i64 a0, .int .i64 a1, .int .i64 a2] w fun e w' => ∃ v0_ : Value, e = .returned (.tuple #[v0_, .int .i64 r2]) ∧ Kd.N k52 52 w' w.heap.size (fun k_ => (w.heap.size ≤ k_)) v0_ r1 ∧ Below w.heap.size w w' := by
 have HB := zA (Below.refl w.heap.size w)
 have H : (if a0 < 2 then (some (([] : List (S52)), 6)) else (if a0 > 256 then (some (([] : List (S52)), 6)) else (if a1 < 0 then (some (([] : List (S52)), 6)) else (if a1 > 64 then (some (([] : List (S52)), 6)) else (if a2 < 0 then (some (([] : List (S52)), 6)) else (if a2 > a1 then (some (([] : List (S52)), 6)) else ((channel_pattern.f k a0 a1 a2).bind fun t365 => (some (t365, 0))))))))) = some (r1, r2) := h
 clear h
 by_cases c4 : a0 < 2
 ·
  rw [if_pos c4] at H
  have c4b0 : decide (a0 < 2) = true := decide_eq_true c4
  clear c4
  simp only [Option.some.injEq, Prod.mk.injEq] at H
  obtain ⟨rfl, rfl⟩ := H
  go_enter Try.func19, Try.ntmps19
  go_wp2
  go_ret2
  exact ⟨_, by first | rfl | (simp [errW_none, errW_some] <;> rfl) | (simp [*, errW_none, errW_some] <;> rfl), by first | exact Kd.S_nil _ _ _ _ _ | exact Kd.N_nil _ _ _ _ _ | exact Kd.V_nil _ _ _ _ _ | exact Kd.Q_nil _ _ _ _ _ | exact Kd.R_nil _ _ _ _ _, by exact zB HB⟩
 ·
  rw [if_neg c4] at H
  have c4b0 : decide (a0 < 2) = false := decide_eq_false c4
  clear c4
  by_cases c5 : a0 > 256
  ·
   rw [if_pos c5] at H
   have c5b0 : decide (256 < a0) = true := decide_eq_true c5
   clear c5
   simp only [Option.some.injEq, Prod.mk.injEq] at H
   obtain ⟨rfl, rfl⟩ := H
   go_enter Try.func19, Try.ntmps19
   go_wp2
   go_ret2
   exact ⟨_, by first | rfl | (simp [errW_none, errW_some] <;> rfl) | (simp [*, errW_none, errW_some] <;> rfl), by first | exact Kd.S_nil _ _ _ _ _ | exact Kd.N_nil _ _ _ _ _ | exact Kd.V_nil _ _ _ _ _ | exact Kd.Q_nil _ _ _ _ _ | exact Kd.R_nil _ _ _ _ _, by exact zB HB⟩
  ·
   rw [if_neg c5] at H
   have c5b0 : decide (256 < a0) = false := decide_eq_false c5
   clear c5
   by_cases c6 : a1 < 0
   ·
    rw [if_pos c6] at H
    have c6b0 : decide (a1 < 0) = true := decide_eq_true c6
    clear c6
    simp only [Option.some.injEq, Prod.mk.injEq] at H
    obtain ⟨rfl, rfl⟩ := H
    go_enter Try.func19, Try.ntmps19
    go_wp2
    go_ret2
    exact ⟨_, by first | rfl | (simp [errW_none, errW_some] <;> rfl) | (simp [*, errW_none, errW_some] <;> rfl), by first | exact Kd.S_nil _ _ _ _ _ | exact Kd.N_nil _ _ _ _ _ | exact Kd.V_nil _ _ _ _ _ | exact Kd.Q_nil _ _ _ _ _ | exact Kd.R_nil _ _ _ _ _, by exact zB HB⟩
   ·
    rw [if_neg c6] at H
    have c6b0 : decide (a1 < 0) = false := decide_eq_false c6
    clear c6
    by_cases c7 : a1 > 64
    ·
     rw [if_pos c7] at H
     have c7b0 : decide (64 < a1) = true := decide_eq_true c7
     clear c7
     simp only [Option.some.injEq, Prod.mk.injEq] at H
     obtain ⟨rfl, rfl⟩ := H
     go_enter Try.func19, Try.ntmps19
     go_wp2
     go_ret2
     exact ⟨_, by first | rfl | (simp [errW_none, errW_some] <;> rfl) | (simp [*, errW_none, errW_some] <;> rfl), by first | exact Kd.S_nil _ _ _ _ _ | exact Kd.N_nil _ _ _ _ _ | exact Kd.V_nil _ _ _ _ _ | exact Kd.Q_nil _ _ _ _ _ | exact Kd.R_nil _ _ _ _ _, by exact zB HB⟩
    ·
     rw [if_neg c7] at H
     have c7b0 : decide (64 < a1) = false := decide_eq_false c7
     clear c7
     by_cases c8 : a2 < 0
     ·
      rw [if_pos c8] at H
      have c8b0 : decide (a2 < 0) = true := decide_eq_true c8
      clear c8
      simp only [Option.some.injEq, Prod.mk.injEq] at H
      obtain ⟨rfl, rfl⟩ := H
      go_enter Try.func19, Try.ntmps19
      go_wp2
      go_ret2
      exact ⟨_, by first | rfl | (simp [errW_none, errW_some] <;> rfl) | (simp [*, errW_none, errW_some] <;> rfl), by first | exact Kd.S_nil _ _ _ _ _ | exact Kd.N_nil _ _ _ _ _ | exact Kd.V_nil _ _ _ _ _ | exact Kd.Q_nil _ _ _ _ _ | exact Kd.R_nil _ _ _ _ _, by exact zB HB⟩
     ·
      rw [if_neg c8] at H
      have c8b0 : decide (a2 < 0) = false := decide_eq_false c8
      clear c8
      by_cases c9 : a2 > a1
      ·
       rw [if_pos c9] at H
       have c9b0 : decide (a1 < a2) = true := decide_eq_true c9
       clear c9
       simp only [Option.some.injEq, Prod.mk.injEq] at H
       obtain ⟨rfl, rfl⟩ := H
       go_enter Try.func19, Try.ntmps19
       go_wp2
       go_ret2
       exact ⟨_, by first | rfl | (simp [errW_none, errW_some] <;> rfl) | (simp [*, errW_none, errW_some] <;> rfl), by first | exact Kd.S_nil _ _ _ _ _ | exact Kd.N_nil _ _ _ _ _ | exact Kd.V_nil _ _ _ _ _ | exact Kd.Q_nil _ _ _ _ _ | exact Kd.R_nil _ _ _ _ _, by exact zB HB⟩
      ·
       rw [if_neg c9] at H
       have c9b0 : decide (a1 < a2) = false := decide_eq_false c9
       clear c9
       replace H := Option.bind_eq_some_iff.mp H
       obtain ⟨t365, A100, H⟩ := H
       replace H : (some (t365, 0)) = some (r1, r2) := H
       have A10 := zA A100
       clear A100
       simp only [Option.some.injEq, Prod.mk.injEq] at H
       obtain ⟨rfl, rfl⟩ := H
       go_enter Try.func19, Try.ntmps19
       go_wp2_with (first | ((with_reducible refine gate_callee (f := 60) rfl ?_); refine goesL_ (some 34) rfl rfl Try.func60 (by kernel_rfl) rfl #[.int .i64 a0, .int .i64 a1, .int .i64 a2] rfl (by (try simp only [List.map_toArray, List.map_cons, List.map_nil]); first | done | rfl | (simp only [List.length_drop, List.length_take]; rfl)) ?_; (with_reducible refine (channel_pattern.calls k a0 a1 a2 t365 _ A10.out).mono ?_); rintro e w11 ⟨v366, rfl, ho0, hb⟩; refine ⟨_, rfl, ?_⟩; have HO367 := zA (Kd.N_lower (Kd.N_mono (ok' := fun k_ => (w.heap.size ≤ k_)) ho0 (fun k_ hk_ => (Nat.le_trans (below_size (by exact zB HB)) hk_))) (below_size (by exact zB HB))); replace HB := zA (below_step (by exact zB HB) hb); (try clear hb ho0)))
       go_ret2
       exact ⟨_, by first | rfl | (simp [errW_none, errW_some] <;> rfl) | (simp [*, errW_none, errW_some] <;> rfl), by exact zN HO367, by exact zB HB⟩
/-! ### codewrightref01_Same: function 17 -/
def codewrightref01_Same.l0 : Nat → List Int → List Int → Int → Option (Bool)
 | 0, _, _, _ => none
 | k + 1, x0, x1, x5 => if x5 < (x0.length : Int) then (if 0 ≤ x5 then (if x5 < (x1.length : Int) then (if (rd x0 x5) = (rd x1 x5) then (codewrightref01_Same.l0 k x0 x1 (wrap64 (x5 + 1))) else (some false)) else (none)) else (none)) else (some true)
def codewrightref01_Same.f (k : Nat) (l0 : List Int) (l1 : List Int) : Option (Bool) := if (l0.length : Int) = (l1.length : Int) then (codewrightref01_Same.l0 k l0 l1 0) else (some false)
set_option maxHeartbeats 8000000 in
set_option maxRecDepth 100000 in
theorem codewrightref01_Same.calls (k : Nat) (A0 : Option Addr) (c0 : Nat) (l0 : List Int) (A1 : Option Addr) (c1 : Nat) (l1 : List Int) (r : Bool) (w : World) (hr0 : Kd.C (Kd.int .u32) w A0 l0.length l0) (hc0 : l0.length ≤ c0) (hr1 : Kd.C (Kd.int .u32) w A1 l1.length l1) (hc1 : l1.length ≤ c1) (h : codewrightref01_Same.f k l0 l1 = some r) :
  Calls Try.prog 17 #[.slice A0 l0.length c0, .slice A1 l1.length c1] w fun e w' => e = .returned (.bool r) ∧ Drawn0 w w' := by
 have HR0 := zA hr0
 have HC0 := zA hc0
 clear hr0 hc0
 have HR1 := zA hr1
 have HC1 := zA hc1
 clear hr1 hc1
 have H : (if (l0.length : Int) = (l1.length : Int) then (codewrightref01_Same.l0 k l0 l1 0) else (some false)) = some r := h
 clear h
 by_cases c3 : (l0.length : Int) = (l1.length : Int)
 ·
  rw [if_pos c3] at H
  have c3b0 : ((l0.length : Int) == (l1.length : Int)) = true := beq_iff_eq.mpr c3
  have c3b1 : ((l0.length : Int) != (l1.length : Int)) = false := bne_eq_false_iff_eq.mpr c3
  have c3b2 : (l0.length == l1.length) = true := by first | simpa using c3 | (simp at c3 ⊢; omega)
  clear c3
  have H' := zA H
  clear H
  go_enter Try.func17, Try.ntmps17
  go_wp2
  repeat (go_quiet (fail); try go_wp2)
  go_loopg [5] k (fun kq v5 w' => ∃ (x5_1 : Int), v5 = .int .i64 x5_1 ∧ Aside0 (codewrightref01_Same.l0 kq l0 l1 x5_1 = some r) ∧ Aside0 (kq ≤ k) ∧ Drawn0 w w')
  case atStart => exact ⟨(0), (by first | rfl | (simp; done) | (simp [*]; done)), H', ⟨Nat.le_refl _⟩, by repeat (first | exact Drawn0.refl _ | apply Drawn0.step)⟩
  case round =>
   clear H'
   try clear c1
   try clear p2
   try clear c3
   try clear c3b0
   try clear c3b1
   try clear c3b2
   obtain ⟨x5_1, rfl, HA, HK1, ⟨m1, rfl⟩⟩ := hrel
   cases gk with
   | zero => exact absurd HA.out (by simp [codewrightref01_Same.l0])
   | succ k1 =>
    have H := HA.out
    clear HA
    simp only [codewrightref01_Same.l0] at H
    by_cases c4 : x5_1 < (l0.length : Int)
    ·
     rw [if_pos c4] at H
     have c4b0 : decide (x5_1 < (l0.length : Int)) = true := decide_eq_true c4
     clear c4
     by_cases c5 : 0 ≤ x5_1
     ·
      rw [if_pos c5] at H
      have c5b0 : decide (0 ≤ x5_1) = true := decide_eq_true c5
      clear c5
      by_cases c6 : x5_1 < (l1.length : Int)
      ·
       rw [if_pos c6] at H
       have c6b0 : decide (x5_1 < (l1.length : Int)) = true := decide_eq_true c6
       clear c6
       by_cases c7 : (rd l0 x5_1) = (rd l1 x5_1)
       ·
        rw [if_pos c7] at H
        have c7b0 : ((rd l0 x5_1) == (rd l1 x5_1)) = true := beq_iff_eq.mpr c7
        have c7b1 : ((rd l0 x5_1) != (rd l1 x5_1)) = false := bne_eq_false_iff_eq.mpr c7
        clear c7
        have H' := zA H
        clear H
        have p368 : 0 ≤ (x5_1 : Int) := of_decide_eq_true (by assumption)
        have q368 : x5_1 < (l0.length : Int) := of_decide_eq_true (by assumption)
        obtain ⟨ad368, e368, hx368_0⟩ := Kd.at_int HR0.out x5_1 p368 q368
        cases e368
        replace p368 := eq_true p368
        replace q368 := eq_true q368
        have p369 : 0 ≤ (x5_1 : Int) := of_decide_eq_true (by assumption)
        have q369 : x5_1 < (l1.length : Int) := of_decide_eq_true (by assumption)
        obtain ⟨ad369, e369, hx369_0⟩ := Kd.at_int HR1.out x5_1 p369 q369
        cases e369
        replace p369 := eq_true p369
        replace q369 := eq_true q369
        go_wp2
        repeat (go_quiet (fail); try go_wp2)
        go_roundg k1
        case measure => have := HK1.out; omega
        case rel => exact ⟨(wrap64 (x5_1 + 1)), (by first | rfl | (simp; done) | (simp [*]; done)), H', ⟨by have := HK1.out; omega⟩, by repeat (first | exact Drawn0.refl _ | apply Drawn0.step)⟩
       ·
        rw [if_neg c7] at H
        have c7b0 : ((rd l0 x5_1) == (rd l1 x5_1)) = false := beq_eq_false_iff_ne.mpr c7
        have c7b1 : ((rd l0 x5_1) != (rd l1 x5_1)) = true := bne_iff_ne.mpr c7
        obtain rfl := Option.some.inj H
        have p368 : 0 ≤ (x5_1 : Int) := of_decide_eq_true (by assumption)
        have q368 : x5_1 < (l0.length : Int) := of_decide_eq_true (by assumption)
        obtain ⟨ad368, e368, hx368_0⟩ := Kd.at_int HR0.out x5_1 p368 q368
        cases e368
        replace p368 := eq_true p368
        replace q368 := eq_true q368
        have p369 : 0 ≤ (x5_1 : Int) := of_decide_eq_true (by assumption)
        have q369 : x5_1 < (l1.length : Int) := of_decide_eq_true (by assumption)
        obtain ⟨ad369, e369, hx369_0⟩ := Kd.at_int HR1.out x5_1 p369 q369
        cases e369
        replace p369 := eq_true p369
        replace q369 := eq_true q369
        go_wp2
        repeat (go_quiet (fail); try go_wp2)
        go_ret
        exact ⟨by first | rfl | (simp; done) | (simp [*]; done), by repeat (first | exact Drawn0.refl _ | apply Drawn0.step)⟩
      ·
       rw [if_neg c6] at H
       exact absurd H (by simp)
     ·
      rw [if_neg c5] at H
      exact absurd H (by simp)
    ·
     rw [if_neg c4] at H
     have c4b0 : decide (x5_1 < (l0.length : Int)) = false := decide_eq_false c4
     clear c4
     obtain rfl := Option.some.inj H
     go_wp2
     repeat (go_quiet (fail); try go_wp2)
     go_ret
     exact ⟨by first | rfl | (simp; done) | (simp [*]; done), by repeat (first | exact Drawn0.refl _ | apply Drawn0.step)⟩
 ·
  rw [if_neg c3] at H
  have c3b0 : ((l0.length : Int) == (l1.length : Int)) = false := beq_eq_false_iff_ne.mpr c3
  have c3b1 : ((l0.length : Int) != (l1.length : Int)) = true := bne_iff_ne.mpr c3
  have c3b2 : (l0.length == l1.length) = false := by first | simpa using c3 | (simp at c3 ⊢; omega)
  obtain rfl := Option.some.inj H
  go_enter Try.func17, Try.ntmps17
  go_wp2
  repeat (go_quiet (fail); try go_wp2)
  go_ret
  exact ⟨by first | rfl | (simp; done) | (simp [*]; done), by repeat (first | exact Drawn0.refl _ | apply Drawn0.step)⟩
end Go.Proofs.Ytjignpnnmfdedaa.PChannelPatterns
