/- A part of the print of this row, cut down to what the row uses. -/
import Derived.Test.YtjignpnnmfdedaaQChannelPatternsx0
import Derived.Test.YtjignpnnmfdedaaQChannelPatternsx1
import Derived.Test.YtjignpnnmfdedaaQChannelPatternsWSq
-- printed by a scratch copy of the print, turned (wip/tools/turn_print.py)
namespace Go.Proofs.Ytjignpnnmfdedaa.PChannelPatterns
open Go.RowKit Go.Proofs.YtjignpnnmfdedaaW.PrintWords Go.Proofs.YtjignpnnmfdedaaW.PrintLast Go.Proofs.YtjignpnnmfdedaaW.PrintMore
attribute [local go_sem] max2_int min2_int max_two min_two max_three min_three max_four min_four   -- for this text's walks alone
set_option linter.unusedVariables false
set_option linter.unusedSimpArgs false
/-! ### nat_Cmp: function 69 -/
def nat_Cmp.l0 : Nat → List Int → List Int → Int → Option (Int)
 | 0, _, _, _ => none
 | k + 1, x0, x1, x5 => if x5 ≥ 0 then (if 0 ≤ x5 then (if x5 < (x0.length : Int) then (if x5 < (x1.length : Int) then (if (rd x0 x5) < (rd x1 x5) then (some (-1)) else (if (rd x0 x5) > (rd x1 x5) then (some 1) else (nat_Cmp.l0 k x0 x1 (wrap64 (x5 - 1))))) else (none)) else (none)) else (none)) else (some 0)
def nat_Cmp.f (k : Nat) (l0 : List Int) (l1 : List Int) : Option (Int) := (nat_short.f k l0).bind fun t193 => ((nat_short.f k l1).bind fun t196 => (if (t193.length : Int) = (t196.length : Int) then (nat_Cmp.l0 k t193 t196 (wrap64 ((t193.length : Int) - 1))) else (if (t193.length : Int) < (t196.length : Int) then (some (-1)) else (some 1))))
set_option maxHeartbeats 8000000 in
set_option maxRecDepth 100000 in
theorem nat_Cmp.calls (k : Nat) (A0 : Option Addr) (c0 : Nat) (l0 : List Int) (A1 : Option Addr) (c1 : Nat) (l1 : List Int) (r : Int) (w : World) (hr0 : Kd.C (Kd.int .u32) w A0 l0.length l0) (hc0 : l0.length ≤ c0) (hr1 : Kd.C (Kd.int .u32) w A1 l1.length l1) (hc1 : l1.length ≤ c1) (h : nat_Cmp.f k l0 l1 = some r) :
  Calls Try.prog 69 #[.slice A0 l0.length c0, .slice A1 l1.length c1] w fun e w' => e = .returned (.int .i64 r) ∧ Below w.heap.size w w' := by
 have HR0 := zA hr0
 have HC0 := zA hc0
 clear hr0 hc0
 have HR1 := zA hr1
 have HC1 := zA hc1
 clear hr1 hc1
 have HB := zA (Below.refl w.heap.size w)
 have H : ((nat_short.f k l0).bind fun t193 => ((nat_short.f k l1).bind fun t196 => (if (t193.length : Int) = (t196.length : Int) then (nat_Cmp.l0 k t193 t196 (wrap64 ((t193.length : Int) - 1))) else (if (t193.length : Int) < (t196.length : Int) then (some (-1)) else (some 1))))) = some r := h
 clear h
 replace H := Option.bind_eq_some_iff.mp H
 obtain ⟨t193, A30, H⟩ := H
 replace H : ((nat_short.f k l1).bind fun t196 => (if (t193.length : Int) = (t196.length : Int) then (nat_Cmp.l0 k t193 t196 (wrap64 ((t193.length : Int) - 1))) else (if (t193.length : Int) < (t196.length : Int) then (some (-1)) else (some 1)))) = some r := H
 have A3 := zA A30
 clear A30
 replace H := Option.bind_eq_some_iff.mp H
 obtain ⟨t196, A40, H⟩ := H
 replace H : (if (t193.length : Int) = (t196.length : Int) then (nat_Cmp.l0 k t193 t196 (wrap64 ((t193.length : Int) - 1))) else (if (t193.length : Int) < (t196.length : Int) then (some (-1)) else (some 1))) = some r := H
 have A4 := zA A40
 clear A40
 by_cases c5 : (t193.length : Int) = (t196.length : Int)
 ·
  rw [if_pos c5] at H
  have c5b0 : ((t193.length : Int) == (t196.length : Int)) = true := beq_iff_eq.mpr c5
  have c5b1 : ((t193.length : Int) != (t196.length : Int)) = false := bne_eq_false_iff_eq.mpr c5
  have c5b2 : (t193.length == t196.length) = true := by first | simpa using c5 | (simp at c5 ⊢; omega)
  clear c5
  have H' := zA H
  clear H
  go_enter Try.func69, Try.ntmps69
  go_wp2_with (first | (go_at_call 104; (with_reducible refine (nat_short.calls k (fun k_ => k_ < w.heap.size) _ _ l0 t193 _ ?side1 A3.out).mono ?_); (case side1 => exact Kd.V_mk HC0.out (Kd.F_below (Kd.C_F (Kd.heap_int .u32) HR0.out) (by exact zB HB))); rintro e w6 ⟨v194, rfl, ho0, hb⟩; have HO195 := zA (Kd.V_lower (Kd.V_mono (ok' := fun k_ => True) ho0 (fun k_ hk_ => trivial)) (below_size (by exact zB HB))); replace HB := zA (below_step (by exact zB HB) hb); (try clear hb ho0)) | (go_at_call 104; (with_reducible refine (nat_short.calls k (fun k_ => k_ < w.heap.size) _ _ l1 t196 _ ?side1 A4.out).mono ?_); (case side1 => exact Kd.V_mk HC1.out (Kd.F_below (Kd.C_F (Kd.heap_int .u32) HR1.out) (by exact zB HB))); rintro e w7 ⟨v197, rfl, ho0, hb⟩; replace HO195 := zA (Kd.V_below (by exact zV HO195) hb); have HO198 := zA (Kd.V_lower (Kd.V_mono (ok' := fun k_ => True) ho0 (fun k_ hk_ => trivial)) (below_size (by exact zB HB))); replace HB := zA (below_step (by exact zB HB) hb); (try clear hb ho0); obtain ⟨Ao8, co8, eo8⟩ := Kd.V_slice HO195.out; subst eo8; obtain ⟨Ao9, co9, eo9⟩ := Kd.V_slice HO198.out; subst eo9))
  repeat (go_quiet (first | (go_at_call 104; (with_reducible refine (nat_short.calls k (fun k_ => k_ < w.heap.size) _ _ l0 t193 _ ?side1 A3.out).mono ?_); (case side1 => exact Kd.V_mk HC0.out (Kd.F_below (Kd.C_F (Kd.heap_int .u32) HR0.out) (by exact zB HB))); rintro e w6 ⟨v194, rfl, ho0, hb⟩; have HO195 := zA (Kd.V_lower (Kd.V_mono (ok' := fun k_ => True) ho0 (fun k_ hk_ => trivial)) (below_size (by exact zB HB))); replace HB := zA (below_step (by exact zB HB) hb); (try clear hb ho0)) | (go_at_call 104; (with_reducible refine (nat_short.calls k (fun k_ => k_ < w.heap.size) _ _ l1 t196 _ ?side1 A4.out).mono ?_); (case side1 => exact Kd.V_mk HC1.out (Kd.F_below (Kd.C_F (Kd.heap_int .u32) HR1.out) (by exact zB HB))); rintro e w7 ⟨v197, rfl, ho0, hb⟩; replace HO195 := zA (Kd.V_below (by exact zV HO195) hb); have HO198 := zA (Kd.V_lower (Kd.V_mono (ok' := fun k_ => True) ho0 (fun k_ hk_ => trivial)) (below_size (by exact zB HB))); replace HB := zA (below_step (by exact zB HB) hb); (try clear hb ho0); obtain ⟨Ao8, co8, eo8⟩ := Kd.V_slice HO195.out; subst eo8; obtain ⟨Ao9, co9, eo9⟩ := Kd.V_slice HO198.out; subst eo9)); try go_wp2_with (first | (go_at_call 104; (with_reducible refine (nat_short.calls k (fun k_ => k_ < w.heap.size) _ _ l0 t193 _ ?side1 A3.out).mono ?_); (case side1 => exact Kd.V_mk HC0.out (Kd.F_below (Kd.C_F (Kd.heap_int .u32) HR0.out) (by exact zB HB))); rintro e w6 ⟨v194, rfl, ho0, hb⟩; have HO195 := zA (Kd.V_lower (Kd.V_mono (ok' := fun k_ => True) ho0 (fun k_ hk_ => trivial)) (below_size (by exact zB HB))); replace HB := zA (below_step (by exact zB HB) hb); (try clear hb ho0)) | (go_at_call 104; (with_reducible refine (nat_short.calls k (fun k_ => k_ < w.heap.size) _ _ l1 t196 _ ?side1 A4.out).mono ?_); (case side1 => exact Kd.V_mk HC1.out (Kd.F_below (Kd.C_F (Kd.heap_int .u32) HR1.out) (by exact zB HB))); rintro e w7 ⟨v197, rfl, ho0, hb⟩; replace HO195 := zA (Kd.V_below (by exact zV HO195) hb); have HO198 := zA (Kd.V_lower (Kd.V_mono (ok' := fun k_ => True) ho0 (fun k_ hk_ => trivial)) (below_size (by exact zB HB))); replace HB := zA (below_step (by exact zB HB) hb); (try clear hb ho0); obtain ⟨Ao8, co8, eo8⟩ := Kd.V_slice HO195.out; subst eo8; obtain ⟨Ao9, co9, eo9⟩ := Kd.V_slice HO198.out; subst eo9)))
  go_loopg [5] k (fun kq v5 w' => ∃ (x5_1 : Int), v5 = .int .i64 x5_1 ∧ Aside0 (nat_Cmp.l0 kq t193 t196 x5_1 = some r) ∧ Aside0 (kq ≤ k) ∧ Aside0 (Kd.V (Kd.int .u32) 79 w' w.heap.size (fun _ => True) (.slice Ao8 t193.length co8) t193) ∧ Aside0 (Kd.V (Kd.int .u32) 79 w' w.heap.size (fun _ => True) (.slice Ao9 t196.length co9) t196) ∧ Aside0 (Below w.heap.size w w'))
  case atStart => exact ⟨(wrap64 ((t193.length : Int) - 1)), (by first | rfl | (simp; done) | (simp [*]; done)), H', ⟨Nat.le_refl _⟩, ⟨by exact zV HO195⟩, ⟨by exact zV HO198⟩, ⟨by exact zB HB⟩⟩
  case round =>
   clear H'
   try clear c1
   try clear p2
   try clear c5
   try clear c5b0
   try clear c5b1
   try clear c5b2
   try clear c6
   try clear p6
   obtain ⟨x5_1, rfl, HA, HK1, HO_0, HO_1, HB⟩ := hrel
   cases gk with
   | zero => exact absurd HA.out (by simp [nat_Cmp.l0])
   | succ k1 =>
    have H := HA.out
    clear HA
    simp only [nat_Cmp.l0] at H
    by_cases c10 : x5_1 ≥ 0
    ·
     rw [if_pos c10] at H
     have c10b0 : decide (0 ≤ x5_1) = true := decide_eq_true c10
     clear c10
     by_cases c11 : 0 ≤ x5_1
     ·
      rw [if_pos c11] at H
      have c11b0 : decide (0 ≤ x5_1) = true := decide_eq_true c11
      clear c11
      by_cases c12 : x5_1 < (t193.length : Int)
      ·
       rw [if_pos c12] at H
       have c12b0 : decide (x5_1 < (t193.length : Int)) = true := decide_eq_true c12
       clear c12
       by_cases c13 : x5_1 < (t196.length : Int)
       ·
        rw [if_pos c13] at H
        have c13b0 : decide (x5_1 < (t196.length : Int)) = true := decide_eq_true c13
        clear c13
        by_cases c14 : (rd t193 x5_1) < (rd t196 x5_1)
        ·
         rw [if_pos c14] at H
         have c14b0 : decide ((rd t193 x5_1) < (rd t196 x5_1)) = true := decide_eq_true c14
         clear c14
         obtain rfl := Option.some.inj H
         have p199 : 0 ≤ (x5_1 : Int) := of_decide_eq_true (by assumption)
         have q199 : x5_1 < (t193.length : Int) := of_decide_eq_true (by assumption)
         obtain ⟨ad199, e199, hx199_0⟩ := Kd.at_int (Kd.V_reads' HO_0.out).2.2 x5_1 p199 q199
         cases e199
         replace p199 := eq_true p199
         replace q199 := eq_true q199
         have p200 : 0 ≤ (x5_1 : Int) := of_decide_eq_true (by assumption)
         have q200 : x5_1 < (t196.length : Int) := of_decide_eq_true (by assumption)
         obtain ⟨ad200, e200, hx200_0⟩ := Kd.at_int (Kd.V_reads' HO_1.out).2.2 x5_1 p200 q200
         cases e200
         replace p200 := eq_true p200
         replace q200 := eq_true q200
         go_wp2
         repeat (go_quiet (fail); try go_wp2)
         go_ret
         exact ⟨by first | rfl | (simp [errW_none, errW_some] <;> rfl) | (simp [*, errW_none, errW_some] <;> rfl), by exact zB HB⟩
        ·
         rw [if_neg c14] at H
         have c14b0 : decide ((rd t193 x5_1) < (rd t196 x5_1)) = false := decide_eq_false c14
         clear c14
         by_cases c15 : (rd t193 x5_1) > (rd t196 x5_1)
         ·
          rw [if_pos c15] at H
          have c15b0 : decide ((rd t196 x5_1) < (rd t193 x5_1)) = true := decide_eq_true c15
          clear c15
          obtain rfl := Option.some.inj H
          have p199 : 0 ≤ (x5_1 : Int) := of_decide_eq_true (by assumption)
          have q199 : x5_1 < (t193.length : Int) := of_decide_eq_true (by assumption)
          obtain ⟨ad199, e199, hx199_0⟩ := Kd.at_int (Kd.V_reads' HO_0.out).2.2 x5_1 p199 q199
          cases e199
          replace p199 := eq_true p199
          replace q199 := eq_true q199
          have p200 : 0 ≤ (x5_1 : Int) := of_decide_eq_true (by assumption)
          have q200 : x5_1 < (t196.length : Int) := of_decide_eq_true (by assumption)
          obtain ⟨ad200, e200, hx200_0⟩ := Kd.at_int (Kd.V_reads' HO_1.out).2.2 x5_1 p200 q200
          cases e200
          replace p200 := eq_true p200
          replace q200 := eq_true q200
          have p201 : 0 ≤ (x5_1 : Int) := of_decide_eq_true (by assumption)
          have q201 : x5_1 < (t193.length : Int) := of_decide_eq_true (by assumption)
          obtain ⟨ad201, e201, hx201_0⟩ := Kd.at_int (Kd.V_reads' HO_0.out).2.2 x5_1 p201 q201
          obtain rfl : ad199 = ad201 := (by injection e201)
          replace p201 := eq_true p201
          replace q201 := eq_true q201
          have p202 : 0 ≤ (x5_1 : Int) := of_decide_eq_true (by assumption)
          have q202 : x5_1 < (t196.length : Int) := of_decide_eq_true (by assumption)
          obtain ⟨ad202, e202, hx202_0⟩ := Kd.at_int (Kd.V_reads' HO_1.out).2.2 x5_1 p202 q202
          obtain rfl : ad200 = ad202 := (by injection e202)
          replace p202 := eq_true p202
          replace q202 := eq_true q202
          go_wp2
          repeat (go_quiet (fail); try go_wp2)
          go_ret
          exact ⟨by first | rfl | (simp [errW_none, errW_some] <;> rfl) | (simp [*, errW_none, errW_some] <;> rfl), by exact zB HB⟩
         ·
          rw [if_neg c15] at H
          have c15b0 : decide ((rd t196 x5_1) < (rd t193 x5_1)) = false := decide_eq_false c15
          clear c15
          have H' := zA H
          clear H
          have p199 : 0 ≤ (x5_1 : Int) := of_decide_eq_true (by assumption)
          have q199 : x5_1 < (t193.length : Int) := of_decide_eq_true (by assumption)
          obtain ⟨ad199, e199, hx199_0⟩ := Kd.at_int (Kd.V_reads' HO_0.out).2.2 x5_1 p199 q199
          cases e199
          replace p199 := eq_true p199
          replace q199 := eq_true q199
          have p200 : 0 ≤ (x5_1 : Int) := of_decide_eq_true (by assumption)
          have q200 : x5_1 < (t196.length : Int) := of_decide_eq_true (by assumption)
          obtain ⟨ad200, e200, hx200_0⟩ := Kd.at_int (Kd.V_reads' HO_1.out).2.2 x5_1 p200 q200
          cases e200
          replace p200 := eq_true p200
          replace q200 := eq_true q200
          have p201 : 0 ≤ (x5_1 : Int) := of_decide_eq_true (by assumption)
          have q201 : x5_1 < (t193.length : Int) := of_decide_eq_true (by assumption)
          obtain ⟨ad201, e201, hx201_0⟩ := Kd.at_int (Kd.V_reads' HO_0.out).2.2 x5_1 p201 q201
          obtain rfl : ad199 = ad201 := (by injection e201)
          replace p201 := eq_true p201
          replace q201 := eq_true q201
          have p202 : 0 ≤ (x5_1 : Int) := of_decide_eq_true (by assumption)
          have q202 : x5_1 < (t196.length : Int) := of_decide_eq_true (by assumption)
          obtain ⟨ad202, e202, hx202_0⟩ := Kd.at_int (Kd.V_reads' HO_1.out).2.2 x5_1 p202 q202
          obtain rfl : ad200 = ad202 := (by injection e202)
          replace p202 := eq_true p202
          replace q202 := eq_true q202
          go_wp2
          repeat (go_quiet (fail); try go_wp2)
          go_roundg k1
          case measure => have := HK1.out; omega
          case rel => exact ⟨(wrap64 (x5_1 - 1)), (by first | rfl | (simp; done) | (simp [*]; done)), H', ⟨by have := HK1.out; omega⟩, ⟨by exact zV HO_0⟩, ⟨by exact zV HO_1⟩, ⟨by exact zB HB⟩⟩
       ·
        rw [if_neg c13] at H
        exact absurd H (by simp)
      ·
       rw [if_neg c12] at H
       exact absurd H (by simp)
     ·
      rw [if_neg c11] at H
      exact absurd H (by simp)
    ·
     rw [if_neg c10] at H
     have c10b0 : decide (0 ≤ x5_1) = false := decide_eq_false c10
     clear c10
     obtain rfl := Option.some.inj H
     go_wp2
     repeat (go_quiet (fail); try go_wp2)
     go_ret
     exact ⟨by first | rfl | (simp [errW_none, errW_some] <;> rfl) | (simp [*, errW_none, errW_some] <;> rfl), by exact zB HB⟩
 ·
  rw [if_neg c5] at H
  have c5b0 : ((t193.length : Int) == (t196.length : Int)) = false := beq_eq_false_iff_ne.mpr c5
  have c5b1 : ((t193.length : Int) != (t196.length : Int)) = true := bne_iff_ne.mpr c5
  have c5b2 : (t193.length == t196.length) = false := by first | simpa using c5 | (simp at c5 ⊢; omega)
  by_cases c16 : (t193.length : Int) < (t196.length : Int)
  ·
   rw [if_pos c16] at H
   have c16b0 : decide ((t193.length : Int) < (t196.length : Int)) = true := decide_eq_true c16
   have c16b1 : decide (t193.length < t196.length) = true := decide_eq_true (Int.ofNat_lt.mp c16)
   clear c16
   obtain rfl := Option.some.inj H
   go_enter Try.func69, Try.ntmps69
   go_wp2_with (first | (go_at_call 104; (with_reducible refine (nat_short.calls k (fun k_ => k_ < w.heap.size) _ _ l0 t193 _ ?side1 A3.out).mono ?_); (case side1 => exact Kd.V_mk HC0.out (Kd.F_below (Kd.C_F (Kd.heap_int .u32) HR0.out) (by exact zB HB))); rintro e w17 ⟨v194, rfl, ho0, hb⟩; have HO195 := zA (Kd.V_lower (Kd.V_mono (ok' := fun k_ => True) ho0 (fun k_ hk_ => trivial)) (below_size (by exact zB HB))); replace HB := zA (below_step (by exact zB HB) hb); (try clear hb ho0)) | (go_at_call 104; (with_reducible refine (nat_short.calls k (fun k_ => k_ < w.heap.size) _ _ l1 t196 _ ?side1 A4.out).mono ?_); (case side1 => exact Kd.V_mk HC1.out (Kd.F_below (Kd.C_F (Kd.heap_int .u32) HR1.out) (by exact zB HB))); rintro e w18 ⟨v197, rfl, ho0, hb⟩; replace HO195 := zA (Kd.V_below (by exact zV HO195) hb); have HO198 := zA (Kd.V_lower (Kd.V_mono (ok' := fun k_ => True) ho0 (fun k_ hk_ => trivial)) (below_size (by exact zB HB))); replace HB := zA (below_step (by exact zB HB) hb); (try clear hb ho0); obtain ⟨Ao19, co19, eo19⟩ := Kd.V_slice HO195.out; subst eo19; obtain ⟨Ao20, co20, eo20⟩ := Kd.V_slice HO198.out; subst eo20))
   repeat (go_quiet (first | (go_at_call 104; (with_reducible refine (nat_short.calls k (fun k_ => k_ < w.heap.size) _ _ l0 t193 _ ?side1 A3.out).mono ?_); (case side1 => exact Kd.V_mk HC0.out (Kd.F_below (Kd.C_F (Kd.heap_int .u32) HR0.out) (by exact zB HB))); rintro e w17 ⟨v194, rfl, ho0, hb⟩; have HO195 := zA (Kd.V_lower (Kd.V_mono (ok' := fun k_ => True) ho0 (fun k_ hk_ => trivial)) (below_size (by exact zB HB))); replace HB := zA (below_step (by exact zB HB) hb); (try clear hb ho0)) | (go_at_call 104; (with_reducible refine (nat_short.calls k (fun k_ => k_ < w.heap.size) _ _ l1 t196 _ ?side1 A4.out).mono ?_); (case side1 => exact Kd.V_mk HC1.out (Kd.F_below (Kd.C_F (Kd.heap_int .u32) HR1.out) (by exact zB HB))); rintro e w18 ⟨v197, rfl, ho0, hb⟩; replace HO195 := zA (Kd.V_below (by exact zV HO195) hb); have HO198 := zA (Kd.V_lower (Kd.V_mono (ok' := fun k_ => True) ho0 (fun k_ hk_ => trivial)) (below_size (by exact zB HB))); replace HB := zA (below_step (by exact zB HB) hb); (try clear hb ho0); obtain ⟨Ao19, co19, eo19⟩ := Kd.V_slice HO195.out; subst eo19; obtain ⟨Ao20, co20, eo20⟩ := Kd.V_slice HO198.out; subst eo20)); try go_wp2_with (first | (go_at_call 104; (with_reducible refine (nat_short.calls k (fun k_ => k_ < w.heap.size) _ _ l0 t193 _ ?side1 A3.out).mono ?_); (case side1 => exact Kd.V_mk HC0.out (Kd.F_below (Kd.C_F (Kd.heap_int .u32) HR0.out) (by exact zB HB))); rintro e w17 ⟨v194, rfl, ho0, hb⟩; have HO195 := zA (Kd.V_lower (Kd.V_mono (ok' := fun k_ => True) ho0 (fun k_ hk_ => trivial)) (below_size (by exact zB HB))); replace HB := zA (below_step (by exact zB HB) hb); (try clear hb ho0)) | (go_at_call 104; (with_reducible refine (nat_short.calls k (fun k_ => k_ < w.heap.size) _ _ l1 t196 _ ?side1 A4.out).mono ?_); (case side1 => exact Kd.V_mk HC1.out (Kd.F_below (Kd.C_F (Kd.heap_int .u32) HR1.out) (by exact zB HB))); rintro e w18 ⟨v197, rfl, ho0, hb⟩; replace HO195 := zA (Kd.V_below (by exact zV HO195) hb); have HO198 := zA (Kd.V_lower (Kd.V_mono (ok' := fun k_ => True) ho0 (fun k_ hk_ => trivial)) (below_size (by exact zB HB))); replace HB := zA (below_step (by exact zB HB) hb); (try clear hb ho0); obtain ⟨Ao19, co19, eo19⟩ := Kd.V_slice HO195.out; subst eo19; obtain ⟨Ao20, co20, eo20⟩ := Kd.V_slice HO198.out; subst eo20)))
   go_ret
   exact ⟨by first | rfl | (simp [errW_none, errW_some] <;> rfl) | (simp [*, errW_none, errW_some] <;> rfl), by exact zB HB⟩
  ·
   rw [if_neg c16] at H
   have c16b0 : decide ((t193.length : Int) < (t196.length : Int)) = false := decide_eq_false c16
   have c16b1 : decide (t193.length < t196.length) = false := decide_eq_false (fun h => c16 (Int.ofNat_lt.mpr h))
   clear c16
   obtain rfl := Option.some.inj H
   go_enter Try.func69, Try.ntmps69
   go_wp2_with (first | (go_at_call 104; (with_reducible refine (nat_short.calls k (fun k_ => k_ < w.heap.size) _ _ l0 t193 _ ?side1 A3.out).mono ?_); (case side1 => exact Kd.V_mk HC0.out (Kd.F_below (Kd.C_F (Kd.heap_int .u32) HR0.out) (by exact zB HB))); rintro e w21 ⟨v194, rfl, ho0, hb⟩; have HO195 := zA (Kd.V_lower (Kd.V_mono (ok' := fun k_ => True) ho0 (fun k_ hk_ => trivial)) (below_size (by exact zB HB))); replace HB := zA (below_step (by exact zB HB) hb); (try clear hb ho0)) | (go_at_call 104; (with_reducible refine (nat_short.calls k (fun k_ => k_ < w.heap.size) _ _ l1 t196 _ ?side1 A4.out).mono ?_); (case side1 => exact Kd.V_mk HC1.out (Kd.F_below (Kd.C_F (Kd.heap_int .u32) HR1.out) (by exact zB HB))); rintro e w22 ⟨v197, rfl, ho0, hb⟩; replace HO195 := zA (Kd.V_below (by exact zV HO195) hb); have HO198 := zA (Kd.V_lower (Kd.V_mono (ok' := fun k_ => True) ho0 (fun k_ hk_ => trivial)) (below_size (by exact zB HB))); replace HB := zA (below_step (by exact zB HB) hb); (try clear hb ho0); obtain ⟨Ao23, co23, eo23⟩ := Kd.V_slice HO195.out; subst eo23; obtain ⟨Ao24, co24, eo24⟩ := Kd.V_slice HO198.out; subst eo24))
   repeat (go_quiet (first | (go_at_call 104; (with_reducible refine (nat_short.calls k (fun k_ => k_ < w.heap.size) _ _ l0 t193 _ ?side1 A3.out).mono ?_); (case side1 => exact Kd.V_mk HC0.out (Kd.F_below (Kd.C_F (Kd.heap_int .u32) HR0.out) (by exact zB HB))); rintro e w21 ⟨v194, rfl, ho0, hb⟩; have HO195 := zA (Kd.V_lower (Kd.V_mono (ok' := fun k_ => True) ho0 (fun k_ hk_ => trivial)) (below_size (by exact zB HB))); replace HB := zA (below_step (by exact zB HB) hb); (try clear hb ho0)) | (go_at_call 104; (with_reducible refine (nat_short.calls k (fun k_ => k_ < w.heap.size) _ _ l1 t196 _ ?side1 A4.out).mono ?_); (case side1 => exact Kd.V_mk HC1.out (Kd.F_below (Kd.C_F (Kd.heap_int .u32) HR1.out) (by exact zB HB))); rintro e w22 ⟨v197, rfl, ho0, hb⟩; replace HO195 := zA (Kd.V_below (by exact zV HO195) hb); have HO198 := zA (Kd.V_lower (Kd.V_mono (ok' := fun k_ => True) ho0 (fun k_ hk_ => trivial)) (below_size (by exact zB HB))); replace HB := zA (below_step (by exact zB HB) hb); (try clear hb ho0); obtain ⟨Ao23, co23, eo23⟩ := Kd.V_slice HO195.out; subst eo23; obtain ⟨Ao24, co24, eo24⟩ := Kd.V_slice HO198.out; subst eo24)); try go_wp2_with (first | (go_at_call 104; (with_reducible refine (nat_short.calls k (fun k_ => k_ < w.heap.size) _ _ l0 t193 _ ?side1 A3.out).mono ?_); (case side1 => exact Kd.V_mk HC0.out (Kd.F_below (Kd.C_F (Kd.heap_int .u32) HR0.out) (by exact zB HB))); rintro e w21 ⟨v194, rfl, ho0, hb⟩; have HO195 := zA (Kd.V_lower (Kd.V_mono (ok' := fun k_ => True) ho0 (fun k_ hk_ => trivial)) (below_size (by exact zB HB))); replace HB := zA (below_step (by exact zB HB) hb); (try clear hb ho0)) | (go_at_call 104; (with_reducible refine (nat_short.calls k (fun k_ => k_ < w.heap.size) _ _ l1 t196 _ ?side1 A4.out).mono ?_); (case side1 => exact Kd.V_mk HC1.out (Kd.F_below (Kd.C_F (Kd.heap_int .u32) HR1.out) (by exact zB HB))); rintro e w22 ⟨v197, rfl, ho0, hb⟩; replace HO195 := zA (Kd.V_below (by exact zV HO195) hb); have HO198 := zA (Kd.V_lower (Kd.V_mono (ok' := fun k_ => True) ho0 (fun k_ hk_ => trivial)) (below_size (by exact zB HB))); replace HB := zA (below_step (by exact zB HB) hb); (try clear hb ho0); obtain ⟨Ao23, co23, eo23⟩ := Kd.V_slice HO195.out; subst eo23; obtain ⟨Ao24, co24, eo24⟩ := Kd.V_slice HO198.out; subst eo24)))
   go_ret
   exact ⟨by first | rfl | (simp [errW_none, errW_some] <;> rfl) | (simp [*, errW_none, errW_some] <;> rfl), by exact zB HB⟩
/-! ### bits_LeadingZeros32: function 126 -/
def bits_LeadingZeros32.f (a0 : Int) : Option (Int) := (bits_Len32.f a0).bind fun t203 => (some (wrap64 (32 - t203)))
set_option maxHeartbeats 8000000 in
set_option maxRecDepth 100000 in
theorem bits_LeadingZeros32.calls (a0 : Int) (r : Int) (w : World) (h : bits_LeadingZeros32.f a0 = some r) :
  Calls Try.prog 126 #[.int .u32 a0] w fun e w' => e = .returned (.int .i64 r) ∧ Drawn0 w w' := by
 have H : ((bits_Len32.f a0).bind fun t203 => (some (wrap64 (32 - t203)))) = some r := h
 clear h
 replace H := Option.bind_eq_some_iff.mp H
 obtain ⟨t203, A20, H⟩ := H
 replace H : (some (wrap64 (32 - t203))) = some r := H
 have A2 := zA A20
 clear A20
 obtain rfl := Option.some.inj H
 go_enter Try.func126, Try.ntmps126
 go_wp2_with (first | ((with_reducible refine gate_callee (f := 125) rfl ?_); refine goesL_ (some 4) rfl rfl Try.func125 (by kernel_rfl) rfl #[.int .u32 a0] rfl (by (try simp only [List.map_toArray, List.map_cons, List.map_nil]); first | done | rfl | (simp only [List.length_drop, List.length_take]; rfl)) ?_; (with_reducible refine (bits_Len32.calls a0 t203 _ A2.out).mono ?_); rintro e w' ⟨rfl, ⟨nd, rfl⟩⟩; refine ⟨_, rfl, ?_⟩))
 go_ret
 exact ⟨by first | rfl | (simp; done) | (simp [*]; done), by repeat (first | exact Drawn0.refl _ | apply Drawn0.step)⟩
/-! ### nat_shift: function 127 -/
def nat_shift.l0 : Nat → List Int → Int → List Int → Int → List Int → Int → Int → Option (List Int)
 | 0, _, _, _, _, _, _, _ => none
 | k + 1, x0, x1, x5, x6, x14, x15, x16 => if x16 < x15 then (if 0 ≤ x16 then (if x16 < (x14.length : Int) then (if 0 ≤ x1 then (if x16 < (x5.length : Int) then (nat_shift.l0 k x0 x1 (x5.set (x16 : Int).toNat ((Go.bits .or .u64 (shl .u64 (IntKind.u64.wrap (rd x14 x16)) x1) x6) % 4294967296)) ((Go.bits .or .u64 (shl .u64 (IntKind.u64.wrap (rd x14 x16)) x1) x6) / 4294967296) x14 x15 (wrap64 (x16 + 1))) else (none)) else (none)) else (none)) else (none)) else (if 0 ≤ (x0.length : Int) then (if (x0.length : Int) < (x5.length : Int) then (some (x5.set ((x0.length : Int) : Int).toNat ((x6) % 4294967296))) else (none)) else (none))
def nat_shift.f (k : Nat) (l0 : List Int) (a1 : Int) : Option (List Int) := if 0 ≤ (wrap64 ((l0.length : Int) + 1)) then (if (wrap64 ((l0.length : Int) + 1) : Int).toNat ≤ 70368744177664 then (nat_shift.l0 k l0 a1 (List.replicate (wrap64 ((l0.length : Int) + 1) : Int).toNat 0) 0 l0 (l0.length : Int) 0) else (none)) else (none)
set_option maxHeartbeats 8000000 in
set_option maxRecDepth 100000 in
theorem nat_shift.calls (k : Nat) (A0 : Option Addr) (c0 : Nat) (l0 : List Int) (a1 : Int) (r : List Int) (w : World) (hr0 : Kd.C (Kd.int .u32) w A0 l0.length l0) (hc0 : l0.length ≤ c0) (h : nat_shift.f k l0 a1 = some r) :
  Calls Try.prog 127 #[.slice A0 l0.length c0, .int .i64 a1] w fun e w' => ∃ v0_ : Value, e = .returned (v0_) ∧ Kd.R (Kd.int .u32) 79 w' w.heap.size (fun _ => True) v0_ r ∧ Below w.heap.size w w' := by
 have HR0 := zA hr0
 have HC0 := zA hc0
 clear hr0 hc0
 have HB := zA (Below.refl w.heap.size w)
 have H : (if 0 ≤ (wrap64 ((l0.length : Int) + 1)) then (if (wrap64 ((l0.length : Int) + 1) : Int).toNat ≤ 70368744177664 then (nat_shift.l0 k l0 a1 (List.replicate (wrap64 ((l0.length : Int) + 1) : Int).toNat 0) 0 l0 (l0.length : Int) 0) else (none)) else (none)) = some r := h
 clear h
 obtain ⟨ji3, hji3⟩ : ∃ j_ : Int, (wrap64 ((l0.length : Int) + 1)) = j_ := ⟨_, rfl⟩
 replace H : (if 0 ≤ (ji3) then (if (ji3 : Int).toNat ≤ 70368744177664 then (nat_shift.l0 k l0 a1 (List.replicate (ji3 : Int).toNat 0) 0 l0 (l0.length : Int) 0) else (none)) else (none)) = some r := by first | (rw [hji3] at H; exact H) | (simp only [hji3] at H ⊢; exact H)
 have hji3w : (IntKind.i64.wrap ((l0.length : Int) + 1)) = ji3 := (i64_w _).trans hji3
 by_cases c4 : 0 ≤ (ji3)
 ·
  rw [if_pos c4] at H
  have c4b0 := eq_true c4
  have c4b1 : decide (0 ≤ (ji3)) = true := decide_eq_true c4
  clear c4
  by_cases c5 : (ji3 : Int).toNat ≤ 70368744177664
  ·
   rw [if_pos c5] at H
   have c5b0 := eq_true c5
   have c5b1 : decide ((ji3 : Int).toNat ≤ 70368744177664) = true := decide_eq_true c5
   clear c5
   obtain ⟨y204, hy204⟩ : ∃ y_ : List Int, y_ = (List.replicate (ji3 : Int).toNat 0) := ⟨_, rfl⟩
   replace H : (nat_shift.l0 k l0 a1 y204 0 l0 (l0.length : Int) 0) = some r := by first | (rw [hy204]; with_reducible exact H) | (have H := (Option.bind_some _ _).symm.trans H; first | (rw [hy204]; with_reducible exact H) | with_reducible exact H) | (rw [hy204]; exact H) | exact H
   have Ny204 := zA hy204
   clear hy204
   have H' := zA H
   clear H
   go_enter Try.func127, Try.ntmps127
   go_wp2_with (first | ((with_reducible refine gate_dst (N := 13) rfl ?_); refine Kd.R_make (Kd.int .u32) _ 79 rfl (N := 13) rfl 32 _ _ rfl ji3 rfl rfl Try.underlying32 (.int .u32 0) 4 info79 rfl (by decide) (by omega) 0 (ok := fun _ => True) (okp := fun _ => True) rfl (fun _ hk => hk) trivial (of_decide_eq_true (by assumption)) (Nat.le_trans (Nat.mul_le_mul_right _ (of_decide_eq_true (by assumption) : ji3.toNat ≤ 70368744177664)) (by omega)) (Below.refl _ _) (Nat.le_refl _) ?_; intro v205 w6 ho7 hb hg_ hnew_; clear hg_ hnew_; (first | rw [← Ny204.out] at ho7 | (simp only [Int.reduceToNat] at ho7; rw [← Ny204.out] at ho7)); have HO206 := zA (Kd.R_lower ho7 (below_size (by exact zB HB))); replace HB := zA (below_step (by exact zB HB) hb); clear hb ho7))
   go_loopg [6, 16] k (fun kq v6 v16 w' => ∃ (x5_1 : List Int) (x6_1 : Int) (x16_1 : Int), v6 = .int .u64 x6_1 ∧ v16 = .int .i64 x16_1 ∧ Aside0 (nat_shift.l0 kq l0 a1 x5_1 x6_1 l0 (l0.length : Int) x16_1 = some r) ∧ Aside0 (kq ≤ k) ∧ Aside0 (Kd.R (Kd.int .u32) 79 w' w.heap.size (fun _ => True) v205 x5_1) ∧ Aside0 (Below w.heap.size w w'))
   case atStart => exact ⟨(y204), (0), (0), (by first | rfl | (simp; done) | (simp [*]; done)), (by first | rfl | (simp; done) | (simp [*]; done)), H', ⟨Nat.le_refl _⟩, ⟨by exact zR HO206⟩, ⟨by exact zB HB⟩⟩
   case round =>
    clear H'
    try clear c1
    try clear p2
    try clear c4
    try clear c4b0
    try clear c4b1
    try clear c5
    try clear c5b0
    try clear c5b1
    try clear p6
    obtain ⟨x5_1, x6_1, x16_1, rfl, rfl, HA, HK1, HO_5, HB⟩ := hrel
    cases gk with
    | zero => exact absurd HA.out (by simp [nat_shift.l0])
    | succ k1 =>
     have H := HA.out
     clear HA
     simp only [nat_shift.l0] at H
     by_cases c8 : x16_1 < (l0.length : Int)
     ·
      rw [if_pos c8] at H
      have c8b0 : decide (x16_1 < (l0.length : Int)) = true := decide_eq_true c8
      clear c8
      by_cases c9 : 0 ≤ x16_1
      ·
       rw [if_pos c9] at H
       have c9b0 : decide (0 ≤ x16_1) = true := decide_eq_true c9
       clear c9
       by_cases c10 : x16_1 < (l0.length : Int)
       ·
        rw [if_pos c10] at H
        have c10b0 : decide (x16_1 < (l0.length : Int)) = true := decide_eq_true c10
        clear c10
        by_cases c11 : 0 ≤ a1
        ·
         rw [if_pos c11] at H
         have c11b0 := eq_true c11
         have c11b1 : decide (0 ≤ a1) = true := decide_eq_true c11
         clear c11
         obtain ⟨ji12, hji12⟩ : ∃ j_ : Int, (shl .u64 (IntKind.u64.wrap (rd l0 x16_1)) a1) = j_ := ⟨_, rfl⟩
         replace H : (if x16_1 < (x5_1.length : Int) then (nat_shift.l0 k1 l0 a1 (x5_1.set (x16_1 : Int).toNat ((Go.bits .or .u64 (ji12) x6_1) % 4294967296)) ((Go.bits .or .u64 (ji12) x6_1) / 4294967296) l0 (l0.length : Int) (wrap64 (x16_1 + 1))) else (none)) = some r := by first | (rw [hji12] at H; exact H) | (simp only [hji12] at H ⊢; exact H)
         have hji12_ : (IntKind.u64.wrap ((IntKind.u64.wrap (rd l0 x16_1)) * 2 ^ min a1.toNat 64)) = ji12 := hji12
         have hji12z : a1 ≤ 64 → (IntKind.u64.wrap ((IntKind.u64.wrap (rd l0 x16_1)) * 2 ^ a1.toNat)) = ji12 := shl_small hji12
         by_cases c13 : x16_1 < (x5_1.length : Int)
         ·
          rw [if_pos c13] at H
          have c13b0 : decide (x16_1 < (x5_1.length : Int)) = true := decide_eq_true c13
          clear c13
          obtain ⟨y208, hy208⟩ : ∃ y_ : List Int, y_ = (x5_1.set (x16_1 : Int).toNat ((Go.bits .or .u64 (ji12) x6_1) % 4294967296)) := ⟨_, rfl⟩
          replace H : (nat_shift.l0 k1 l0 a1 y208 ((Go.bits .or .u64 (ji12) x6_1) / 4294967296) l0 (l0.length : Int) (wrap64 (x16_1 + 1))) = some r := by first | (rw [hy208]; with_reducible exact H) | (have H := (Option.bind_some _ _).symm.trans H; first | (rw [hy208]; with_reducible exact H) | with_reducible exact H) | (rw [hy208]; exact H) | exact H
          have Ny208 := zA hy208
          clear hy208
          have H' := zA H
          clear H
          have p207 : 0 ≤ (x16_1 : Int) := of_decide_eq_true (by assumption)
          have q207 : x16_1 < (l0.length : Int) := of_decide_eq_true (by assumption)
          obtain ⟨ad207, e207, hx207_0⟩ := Kd.at_int HR0.out x16_1 p207 q207
          cases e207
          replace hx207_0 := (HB.out.cell (World.block_lt_of_cell? w _ hx207_0)).trans hx207_0
          replace p207 := eq_true p207
          replace q207 := eq_true q207
          have p14 : 0 ≤ (x16_1 : Int) := of_decide_eq_true (by assumption)
          have q14 : (x16_1 : Int) < ((x5_1.length : Int) : Int) := of_decide_eq_true (by assumption)
          obtain ⟨go14, co14, eo14, gb14, gl14, cl14, HG14⟩ := Kd.R_form HO_5.out (by omega)
          (first | cases eo14 | (injection eo14 with ea_ en_ ec_; (first | subst ea_ | (injection ea_ with ea_; subst ea_)); subst ec_; clear en_))
          have GB14 := zA gb14
          have GG14 := zA HG14
          clear gb14 gl14 HG14
          obtain ⟨hx14_0, hf14_0⟩ := Kd.R_celln 0 HO_5.out (x16_1 : Int) p14 q14
          replace p14 := eq_true p14
          replace q14 := eq_true q14
          have HP15 := Kd.R_putg HO_5.out (x16_1 : Int) ((Go.bits .or .u64 (ji12) x6_1) % 4294967296)
          go_wp2_with (first | ((with_reducible refine gate_store (t := 79) (p := 31) rfl ?_); refine store_event (t := 79) (p := 31) (v := ?vo_w16) (w1 := (wr.setCell ⟨go14, (x16_1 : Int).toNat, none⟩ (.int .u32 ((Go.bits .or .u64 (ji12) x6_1) % 4294967296)))) ?hg ?ho ?hn ?hr ?_; (case ho => rfl); (case hg => rfl); (case hn => rfl); (case hr => first | (go_simp; done) | (go_simp; rfl)); intro w16 hw; have hg : wr.grownBy w16 (some go14) := (by rw [hw]; exact HP15.2); have hp_ : Kd.R (Kd.int .u32) 79 w16 w.heap.size (fun _ => True) (.slice (some ⟨go14, 0, none⟩) x5_1.length co14) y208 := (by rw [hw, Ny208.out]; exact HP15.1); clear HP15; replace HO_5 := zA (hp_); replace HB := zA ((by rw [hw]; exact below_set (HB.out) GB14.out : Below w.heap.size w w16)); clear hg hw hp_))
          go_roundg k1
          case measure => have := HK1.out; omega
          case rel => exact ⟨(y208), ((Go.bits .or .u64 (ji12) x6_1) / 4294967296), (wrap64 (x16_1 + 1)), (by first | rfl | (simp; done) | (simp only [← hji12] <;> (first | rfl | simp)) | (simp [*]; done)), (by first | rfl | (simp; done) | (simp [*]; done)), H', ⟨by have := HK1.out; omega⟩, ⟨by exact zR HO_5⟩, ⟨by exact zB HB⟩⟩
         ·
          rw [if_neg c13] at H
          exact absurd H (by simp)
        ·
         rw [if_neg c11] at H
         exact absurd H (by simp)
       ·
        rw [if_neg c10] at H
        exact absurd H (by simp)
      ·
       rw [if_neg c9] at H
       exact absurd H (by simp)
     ·
      rw [if_neg c8] at H
      have c8b0 : decide (x16_1 < (l0.length : Int)) = false := decide_eq_false c8
      clear c8
      by_cases c17 : 0 ≤ (l0.length : Int)
      ·
       rw [if_pos c17] at H
       have c17b0 : decide (0 ≤ (l0.length : Int)) = true := decide_eq_true c17
       have c17b1 : decide (0 ≤ l0.length) = true := decide_eq_true (by omega)
       clear c17
       by_cases c18 : (l0.length : Int) < (x5_1.length : Int)
       ·
        rw [if_pos c18] at H
        have c18b0 : decide ((l0.length : Int) < (x5_1.length : Int)) = true := decide_eq_true c18
        have c18b1 : decide (l0.length < x5_1.length) = true := decide_eq_true (Int.ofNat_lt.mp c18)
        clear c18
        obtain ⟨y209, hy209⟩ : ∃ y_ : List Int, y_ = (x5_1.set ((l0.length : Int) : Int).toNat ((x6_1) % 4294967296)) := ⟨_, rfl⟩
        replace H : (some y209) = some r := by first | (rw [hy209]; with_reducible exact H) | (have H := (Option.bind_some _ _).symm.trans H; first | (rw [hy209]; with_reducible exact H) | with_reducible exact H) | (rw [hy209]; exact H) | exact H
        have Ny209 := zA hy209
        clear hy209
        obtain rfl := Option.some.inj H
        have p19 : 0 ≤ ((l0.length : Int) : Int) := of_decide_eq_true (by assumption)
        have q19 : ((l0.length : Int) : Int) < ((x5_1.length : Int) : Int) := of_decide_eq_true (by assumption)
        obtain ⟨go19, co19, eo19, gb19, gl19, cl19, HG19⟩ := Kd.R_form HO_5.out (by omega)
        (first | cases eo19 | (injection eo19 with ea_ en_ ec_; (first | subst ea_ | (injection ea_ with ea_; subst ea_)); subst ec_; clear en_))
        have GB19 := zA gb19
        have GG19 := zA HG19
        clear gb19 gl19 HG19
        obtain ⟨hx19_0, hf19_0⟩ := Kd.R_celln 0 HO_5.out ((l0.length : Int) : Int) p19 q19
        (try simp only [Int.toNat_natCast] at hx19_0 hf19_0)
        (try simp only [Int.toNat_natCast] at hx19_0 hf19_0)
        replace p19 := eq_true p19
        replace q19 := eq_true q19
        have HP20 := Kd.R_putg HO_5.out ((l0.length : Int) : Int) ((x6_1) % 4294967296)
        go_wp2_with (first | ((with_reducible refine gate_store (t := 79) (p := 40) rfl ?_); refine store_event (t := 79) (p := 40) (v := ?vo_w21) (w1 := (wr.setCell ⟨go19, ((l0.length : Int) : Int).toNat, none⟩ (.int .u32 ((x6_1) % 4294967296)))) ?hg ?ho ?hn ?hr ?_; (case ho => rfl); (case hg => rfl); (case hn => rfl); (case hr => first | (go_simp; done) | (go_simp; rfl)); intro w21 hw; have hg : wr.grownBy w21 (some go19) := (by rw [hw]; exact HP20.2); have hp_ : Kd.R (Kd.int .u32) 79 w21 w.heap.size (fun _ => True) (.slice (some ⟨go19, 0, none⟩) x5_1.length co19) y209 := (by rw [hw, Ny209.out]; exact HP20.1); clear HP20; replace HO_5 := zA (hp_); replace HB := zA ((by rw [hw]; exact below_set (HB.out) GB19.out : Below w.heap.size w w21)); clear hg hw hp_))
        go_ret
        exact ⟨_, by first | rfl | (simp [errW_none, errW_some] <;> rfl) | (simp only [← hji3]; first | rfl | (simp [errW_none, errW_some] <;> rfl)) | (simp [*, errW_none, errW_some] <;> rfl), by exact zR HO_5, by exact zB HB⟩
       ·
        rw [if_neg c18] at H
        exact absurd H (by simp)
      ·
       rw [if_neg c17] at H
       exact absurd H (by simp)
  ·
   rw [if_neg c5] at H
   exact absurd H (by simp)
 ·
  rw [if_neg c4] at H
  exact absurd H (by simp)
end Go.Proofs.Ytjignpnnmfdedaa.PChannelPatterns
