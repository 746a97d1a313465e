/- A part of the print of this row, cut down to what the row uses. -/
import Derived.Test.YtjignpnnmfdedaaQChannelPatternsx0
import Derived.Test.YtjignpnnmfdedaaQChannelPatternsx7
import Derived.Test.YtjignpnnmfdedaaQChannelPatternsx8
import Derived.Test.YtjignpnnmfdedaaQChannelPatternsWSq
-- printed by a scratch copy of the print, turned (wip/tools/turn_print.py)
namespace Go.Proofs.Ytjignpnnmfdedaa.PChannelPatterns
open Go.RowKit Go.Proofs.YtjignpnnmfdedaaW.PrintWords Go.Proofs.YtjignpnnmfdedaaW.PrintLast Go.Proofs.YtjignpnnmfdedaaW.PrintMore
attribute [local go_sem] max2_int min2_int max_two min_two max_three min_three max_four min_four   -- for this text's walks alone
set_option linter.unusedVariables false
set_option linter.unusedSimpArgs false
/-! ### codewrightref01_DivMod: function 116 -/
def codewrightref01_DivMod.l0 : Nat → List Int → List Int → List Int → Int → Option (List Int × List Int)
 | 0, _, _, _, _ => none
 | k + 1, x1, x4, x5, x7 => if x7 ≥ 0 then ((codewrightref01_shift.f k x1 x7).bind fun t442 => ((codewrightref01_Cmp.f k x5 t442).bind fun t445 => (if t445 ≥ 0 then ((codewrightref01_Sub.f k x5 t442).bind fun t446 => ((codewrightref01_shift.f k (([1] : List Int)) x7).bind fun t452 => ((codewrightref01_Add.f k x4 t452).bind fun t455 => (codewrightref01_DivMod.l0 k x1 t455 t446 (wrap64 (x7 - 1)))))) else (codewrightref01_DivMod.l0 k x1 x4 x5 (wrap64 (x7 - 1)))))) else ((codewrightref01_Trim.f k x4).bind fun t439 => (some (t439, x5)))
def codewrightref01_DivMod.f (k : Nat) (l0 : List Int) (l1 : List Int) : Option (List Int × List Int) := (codewrightref01_Trim.f k l0).bind fun t434 => ((codewrightref01_Bits.f k l0).bind fun t437 => ((codewrightref01_Bits.f k l1).bind fun t438 => (codewrightref01_DivMod.l0 k l1 ([] : List Int) t434 (wrap64 (t437 - t438)))))
set_option maxHeartbeats 8000000 in
set_option maxRecDepth 100000 in
theorem codewrightref01_DivMod.calls (k : Nat) (A0 : Option Addr) (c0 : Nat) (l0 : List Int) (A1 : Option Addr) (c1 : Nat) (l1 : List Int) (r1 : List Int) (r2 : List Int) (w : World) (hr0 : Kd.C (Kd.int .u32) w A0 l0.length l0) (hc0 : l0.length ≤ c0) (hr1 : Kd.C (Kd.int .u32) w A1 l1.length l1) (hc1 : l1.length ≤ c1) (h : codewrightref01_DivMod.f k l0 l1 = some (r1, r2)) :
  Calls Try.prog 116 #[.slice A0 l0.length c0, .slice A1 l1.length c1] w fun e w' => ∃ v0_ v1_ : Value, e = .returned (.tuple #[v0_, v1_]) ∧ Kd.R (Kd.int .u32) 79 w' w.heap.size (fun k_ => some k_ ≠ (v1_ : Value).ownBlock) v0_ r1 ∧ Kd.R (Kd.int .u32) 79 w' w.heap.size (fun k_ => some k_ ≠ (v0_ : Value).ownBlock) v1_ r2 ∧ Below w.heap.size w w' := by
 have HR0 := zA hr0
 have HC0 := zA hc0
 clear hr0 hc0
 have HR1 := zA hr1
 have HC1 := zA hc1
 clear hr1 hc1
 have HB := zA (Below.refl w.heap.size w)
 have H : ((codewrightref01_Trim.f k l0).bind fun t434 => ((codewrightref01_Bits.f k l0).bind fun t437 => ((codewrightref01_Bits.f k l1).bind fun t438 => (codewrightref01_DivMod.l0 k l1 ([] : List Int) t434 (wrap64 (t437 - t438)))))) = some (r1, r2) := h
 clear h
 replace H := Option.bind_eq_some_iff.mp H
 obtain ⟨t434, A30, H⟩ := H
 replace H : ((codewrightref01_Bits.f k l0).bind fun t437 => ((codewrightref01_Bits.f k l1).bind fun t438 => (codewrightref01_DivMod.l0 k l1 ([] : List Int) t434 (wrap64 (t437 - t438))))) = some (r1, r2) := H
 have A3 := zA A30
 clear A30
 replace H := Option.bind_eq_some_iff.mp H
 obtain ⟨t437, A40, H⟩ := H
 replace H : ((codewrightref01_Bits.f k l1).bind fun t438 => (codewrightref01_DivMod.l0 k l1 ([] : List Int) t434 (wrap64 (t437 - t438)))) = some (r1, r2) := H
 have A4 := zA A40
 clear A40
 replace H := Option.bind_eq_some_iff.mp H
 obtain ⟨t438, A50, H⟩ := H
 replace H : (codewrightref01_DivMod.l0 k l1 ([] : List Int) t434 (wrap64 (t437 - t438))) = some (r1, r2) := H
 have A5 := zA A50
 clear A50
 have H' := zA H
 clear H
 go_enter Try.func116, Try.ntmps116
 go_wp2_with (first | ((with_reducible refine gate_callee (f := 59) rfl ?_); refine goesL_ (some 10) rfl rfl Try.func59 (by kernel_rfl) rfl #[.slice A0 l0.length c0] rfl (by (try simp only [List.map_toArray, List.map_cons, List.map_nil]); first | done | rfl | (simp only [List.length_drop, List.length_take]; rfl)) ?_; (with_reducible refine (codewrightref01_Trim.calls k _ _ l0 t434 _ ?side1 ?side2 A3.out).mono ?_); (case side1 => exact zC (HR0.out)); (case side2 => exact HC0.out); rintro e w6 ⟨v435, rfl, ho0, hb⟩; refine ⟨_, rfl, ?_⟩; have HO436 := zA (Kd.R_lower ho0 (below_size (by exact zB HB))); replace HB := zA (below_step (by exact zB HB) hb); (try clear hb ho0)) | ((with_reducible refine gate_callee (f := 87) rfl ?_); refine goesL_ (some 12) rfl rfl Try.func87 (by kernel_rfl) rfl #[.slice A0 l0.length c0] rfl (by (try simp only [List.map_toArray, List.map_cons, List.map_nil]); first | done | rfl | (simp only [List.length_drop, List.length_take]; rfl)) ?_; (with_reducible refine (codewrightref01_Bits.calls k _ _ l0 t437 _ ?side1 ?side2 A4.out).mono ?_); (case side1 => exact zC ((Kd.C_below HR0.out HB.out))); (case side2 => exact HC0.out); rintro e w7 ⟨rfl, hb⟩; refine ⟨_, rfl, ?_⟩; replace HO436 := zA (Kd.R_below (by exact zR HO436) hb); replace HB := zA (below_step (by exact zB HB) hb); (try clear hb)) | ((with_reducible refine gate_callee (f := 87) rfl ?_); refine goesL_ (some 14) rfl rfl Try.func87 (by kernel_rfl) rfl #[.slice A1 l1.length c1] rfl (by (try simp only [List.map_toArray, List.map_cons, List.map_nil]); first | done | rfl | (simp only [List.length_drop, List.length_take]; rfl)) ?_; (with_reducible refine (codewrightref01_Bits.calls k _ _ l1 t438 _ ?side1 ?side2 A5.out).mono ?_); (case side1 => exact zC ((Kd.C_below HR1.out HB.out))); (case side2 => exact HC1.out); rintro e w8 ⟨rfl, hb⟩; refine ⟨_, rfl, ?_⟩; replace HO436 := zA (Kd.R_below (by exact zR HO436) hb); replace HB := zA (below_step (by exact zB HB) hb); (try clear hb)))
 go_loopg [4, 5, 7] k (fun kq v4 v5 v7 w' => ∃ (x4_1 : List Int) (x5_1 : List Int) (x7_1 : Int), v7 = .int .i64 x7_1 ∧ Aside0 (codewrightref01_DivMod.l0 kq l1 x4_1 x5_1 x7_1 = some (r1, r2)) ∧ Aside0 (kq ≤ k) ∧ Aside0 (Kd.R (Kd.int .u32) 79 w' w.heap.size (fun k_ => some k_ ≠ (v5 : Value).ownBlock) v4 x4_1) ∧ Aside0 (Kd.R (Kd.int .u32) 79 w' w.heap.size (fun k_ => some k_ ≠ (v4 : Value).ownBlock) v5 x5_1) ∧ Aside0 (Below w.heap.size w w'))
 case atStart => exact ⟨(([] : List Int)), (t434), (wrap64 (t437 - t438)), (by first | rfl | (simp; done) | (simp [*]; done)), H', ⟨Nat.le_refl _⟩, ⟨by first | exact Kd.R_nil _ _ _ _ _ | exact Kd.N_nil _ _ _ _ _ | exact Kd.V_nil _ _ _ _ _ | exact Kd.Q_nil _ _ _ _ _ | exact Kd.S_nil _ _ _ _ _⟩, ⟨by (with_reducible repeat (first | apply Kd.R_alloc | apply Kd.R_drewN | apply Kd.R_drew)); exact Kd.R_mono HO436.out (fun _ hk => (by simp [Value.ownBlock]))⟩, ⟨by exact zB HB⟩⟩
 case round =>
  clear H'
  try clear c1
  try clear p2
  try clear c5
  try clear p6
  try clear c8
  obtain ⟨x4_1, x5_1, x7_1, rfl, HA, HK1, HO_4, HO_5, HB⟩ := hrel
  cases gk with
  | zero => exact absurd HA.out (by simp [codewrightref01_DivMod.l0])
  | succ k1 =>
   have H := HA.out
   clear HA
   simp only [codewrightref01_DivMod.l0] at H
   by_cases c9 : x7_1 ≥ 0
   ·
    rw [if_pos c9] at H
    have c9b0 : decide (0 ≤ x7_1) = true := decide_eq_true c9
    clear c9
    replace H := Option.bind_eq_some_iff.mp H
    obtain ⟨t442, A100, H⟩ := H
    replace H : ((codewrightref01_Cmp.f k1 x5_1 t442).bind fun t445 => (if t445 ≥ 0 then ((codewrightref01_Sub.f k1 x5_1 t442).bind fun t446 => ((codewrightref01_shift.f k1 (([1] : List Int)) x7_1).bind fun t452 => ((codewrightref01_Add.f k1 x4_1 t452).bind fun t455 => (codewrightref01_DivMod.l0 k1 l1 t455 t446 (wrap64 (x7_1 - 1)))))) else (codewrightref01_DivMod.l0 k1 l1 x4_1 x5_1 (wrap64 (x7_1 - 1))))) = some (r1, r2) := H
    have A10 := zA A100
    clear A100
    replace H := Option.bind_eq_some_iff.mp H
    obtain ⟨t445, A110, H⟩ := H
    replace H : (if t445 ≥ 0 then ((codewrightref01_Sub.f k1 x5_1 t442).bind fun t446 => ((codewrightref01_shift.f k1 (([1] : List Int)) x7_1).bind fun t452 => ((codewrightref01_Add.f k1 x4_1 t452).bind fun t455 => (codewrightref01_DivMod.l0 k1 l1 t455 t446 (wrap64 (x7_1 - 1)))))) else (codewrightref01_DivMod.l0 k1 l1 x4_1 x5_1 (wrap64 (x7_1 - 1)))) = some (r1, r2) := H
    have A11 := zA A110
    clear A110
    by_cases c12 : t445 ≥ 0
    ·
     rw [if_pos c12] at H
     have c12b0 : decide (0 ≤ t445) = true := decide_eq_true c12
     clear c12
     replace H := Option.bind_eq_some_iff.mp H
     obtain ⟨t446, A130, H⟩ := H
     replace H : ((codewrightref01_shift.f k1 (([1] : List Int)) x7_1).bind fun t452 => ((codewrightref01_Add.f k1 x4_1 t452).bind fun t455 => (codewrightref01_DivMod.l0 k1 l1 t455 t446 (wrap64 (x7_1 - 1))))) = some (r1, r2) := H
     have A13 := zA A130
     clear A130
     obtain ⟨y449, hy449⟩ : ∃ y_ : List Int, y_ = (([1] : List Int)) := ⟨_, rfl⟩
     replace H : ((codewrightref01_shift.f k1 y449 x7_1).bind fun t452 => ((codewrightref01_Add.f k1 x4_1 t452).bind fun t455 => (codewrightref01_DivMod.l0 k1 l1 t455 t446 (wrap64 (x7_1 - 1))))) = some (r1, r2) := by first | (rw [hy449]; with_reducible exact H) | (have H := (Option.bind_some _ _).symm.trans H; first | (rw [hy449]; with_reducible exact H) | with_reducible exact H) | (rw [hy449]; exact H) | exact H
     have Ny449 := zA hy449
     clear hy449
     replace H := Option.bind_eq_some_iff.mp H
     obtain ⟨t452, A140, H⟩ := H
     replace H : ((codewrightref01_Add.f k1 x4_1 t452).bind fun t455 => (codewrightref01_DivMod.l0 k1 l1 t455 t446 (wrap64 (x7_1 - 1)))) = some (r1, r2) := H
     have A14 := zA A140
     clear A140
     replace H := Option.bind_eq_some_iff.mp H
     obtain ⟨t455, A150, H⟩ := H
     replace H : (codewrightref01_DivMod.l0 k1 l1 t455 t446 (wrap64 (x7_1 - 1))) = some (r1, r2) := H
     have A15 := zA A150
     clear A150
     have H' := zA H
     clear H
     go_wp2_with (first | ((with_reducible refine gate_callee (f := 124) rfl ?_); refine goesL_ (some 23) rfl rfl Try.func124 (by kernel_rfl) rfl #[.slice A1 l1.length c1, .int .i64 x7_1] rfl (by (try simp only [List.map_toArray, List.map_cons, List.map_nil]); first | done | rfl | (simp only [List.length_drop, List.length_take]; rfl)) ?_; (with_reducible refine (codewrightref01_shift.calls k1 _ _ l1 x7_1 t442 _ ?side1 ?side2 A10.out).mono ?_); (case side1 => exact zC ((Kd.C_below HR1.out HB.out))); (case side2 => exact HC1.out); rintro e w16 ⟨v443, rfl, ho0, hb⟩; refine ⟨_, rfl, ?_⟩; have HO444 := zA (Kd.R_lower (Kd.R_new' (Kd.R_new' ho0 (Kd.R_lt (by exact zR HO_4))) (Kd.R_lt (by exact zR HO_5))) (below_size (by exact zB HB))); replace HO_4 := zA (Kd.R_elder' (by exact zR HO_4) (Kd.R_base ho0) hb); replace HO_5 := zA (Kd.R_elder' (by exact zR HO_5) (Kd.R_base ho0) hb); replace HB := zA (below_step (by exact zB HB) hb); (try clear hb ho0); obtain ⟨Ao17, co17, eo17⟩ := Kd.R_slice HO_5.out; subst eo17; obtain ⟨Ao18, co18, eo18⟩ := Kd.R_slice HO444.out; subst eo18) | ((with_reducible refine gate_callee (f := 70) rfl ?_); refine goesL_ (some 26) rfl rfl Try.func70 (by kernel_rfl) rfl #[.slice Ao17 x5_1.length co17, .slice Ao18 t442.length co18] rfl (by (try simp only [List.map_toArray, List.map_cons, List.map_nil]); first | done | rfl | (simp only [List.length_drop, List.length_take]; rfl)) ?_; (with_reducible refine (codewrightref01_Cmp.calls k1 _ _ x5_1 _ _ t442 t445 _ ?side1 ?side2 ?side3 ?side4 A11.out).mono ?_); (case side1 => exact zC ((Kd.R_reads' HO_5.out).2.2)); (case side2 => exact (Kd.R_reads' HO_5.out).2.1); (case side3 => exact zC ((Kd.R_reads' HO444.out).2.2)); (case side4 => exact (Kd.R_reads' HO444.out).2.1); rintro e w19 ⟨rfl, hb⟩; refine ⟨_, rfl, ?_⟩; replace HO_4 := zA (Kd.R_below (by exact zR HO_4) hb); replace HO_5 := zA (Kd.R_below (by exact zR HO_5) hb); replace HO444 := zA (Kd.R_below (by exact zR HO444) hb); replace HB := zA (below_step (by exact zB HB) hb); (try clear hb)) | ((with_reducible refine gate_callee (f := 86) rfl ?_); refine goesL_ (some 30) rfl rfl Try.func86 (by kernel_rfl) rfl #[.slice Ao17 x5_1.length co17, .slice Ao18 t442.length co18] rfl (by (try simp only [List.map_toArray, List.map_cons, List.map_nil]); first | done | rfl | (simp only [List.length_drop, List.length_take]; rfl)) ?_; (with_reducible refine (codewrightref01_Sub.calls k1 _ _ x5_1 _ _ t442 t446 _ ?side1 ?side2 ?side3 ?side4 A13.out).mono ?_); (case side1 => exact zC ((Kd.R_reads' HO_5.out).2.2)); (case side2 => exact (Kd.R_reads' HO_5.out).2.1); (case side3 => exact zC ((Kd.R_reads' HO444.out).2.2)); (case side4 => exact (Kd.R_reads' HO444.out).2.1); rintro e w20 ⟨v447, rfl, ho0, hb⟩; refine ⟨_, rfl, ?_⟩; have HO448 := zA (Kd.R_lower (Kd.R_new' (Kd.R_new' (Kd.R_new' ho0 (Kd.R_lt (by exact zR HO_4))) (Kd.R_lt (by exact zR HO_5))) (Kd.R_lt (by exact zR HO444))) (below_size (by exact zB HB))); replace HO_4 := zA (Kd.R_elder' (by exact zR HO_4) (Kd.R_base ho0) hb); replace HO_5 := zA (Kd.R_elder' (by exact zR HO_5) (Kd.R_base ho0) hb); replace HO444 := zA (Kd.R_elder' (by exact zR HO444) (Kd.R_base ho0) hb); replace HB := zA (below_step (by exact zB HB) hb); (try clear hb ho0)) | ((with_reducible refine gate_dst (N := 32) rfl ?_); refine Kd.R_lit (Kd.int .u32) _ 79 ?hg (N := 32) ?hd (xs := ([1] : List Int)) (inner := [.int .u32 1]) (ok := fun _ => True) (okp := fun _ => True) ?hr ?hp (fun _ hk => hk) trivial (Below.refl _ _) (Nat.le_refl _) (by simp) ?_; (case hd => rfl); (case hg => rfl); (case hr => first | (go_simp; done) | (go_simp; rfl)); (case hp => exact (Reps.one (show Kd.M (Kd.int .u32) _ _ _ 1 [.int .u32 1] from rfl) (Reps.none _ _))); intro v450 w21 ho22 hb hg_ hnew_; clear hg_ hnew_; (first | rw [← Ny449.out] at ho22 | (simp only [Int.reduceToNat] at ho22; rw [← Ny449.out] at ho22)); have HO451 := zA (Kd.R_lower (Kd.R_new' (Kd.R_new' (Kd.R_new' (Kd.R_new' ho22 (Kd.R_lt (by exact zR HO_4))) (Kd.R_lt (by exact zR HO_5))) (Kd.R_lt (by exact zR HO444))) (Kd.R_lt (by exact zR HO448))) (below_size (by exact zB HB))); replace HO_4 := zA (Kd.R_elder' (by exact zR HO_4) (Kd.R_base ho22) hb); replace HO_5 := zA (Kd.R_elder' (by exact zR HO_5) (Kd.R_base ho22) hb); replace HO444 := zA (Kd.R_elder' (by exact zR HO444) (Kd.R_base ho22) hb); replace HO448 := zA (Kd.R_elder' (by exact zR HO448) (Kd.R_base ho22) hb); replace HB := zA (below_step (by exact zB HB) hb); clear hb ho22; obtain ⟨Ao23, co23, eo23⟩ := Kd.R_slice HO451.out; subst eo23) | ((with_reducible refine gate_callee (f := 124) rfl ?_); refine goesL_ (some 34) rfl rfl Try.func124 (by kernel_rfl) rfl #[.slice Ao23 y449.length co23, .int .i64 x7_1] rfl (by (try simp only [List.map_toArray, List.map_cons, List.map_nil]); first | done | rfl | (simp only [List.length_drop, List.length_take]; rfl)) ?_; (with_reducible refine (codewrightref01_shift.calls k1 _ _ y449 x7_1 t452 _ ?side1 ?side2 A14.out).mono ?_); (case side1 => exact zC ((Kd.R_reads' HO451.out).2.2)); (case side2 => exact (Kd.R_reads' HO451.out).2.1); rintro e w24 ⟨v453, rfl, ho0, hb⟩; refine ⟨_, rfl, ?_⟩; have HO454 := zA (Kd.R_lower (Kd.R_new' (Kd.R_new' (Kd.R_new' (Kd.R_new' (Kd.R_new' ho0 (Kd.R_lt (by exact zR HO_4))) (Kd.R_lt (by exact zR HO_5))) (Kd.R_lt (by exact zR HO444))) (Kd.R_lt (by exact zR HO448))) (Kd.R_lt (by exact zR HO451))) (below_size (by exact zB HB))); replace HO_4 := zA (Kd.R_elder' (by exact zR HO_4) (Kd.R_base ho0) hb); replace HO_5 := zA (Kd.R_elder' (by exact zR HO_5) (Kd.R_base ho0) hb); replace HO444 := zA (Kd.R_elder' (by exact zR HO444) (Kd.R_base ho0) hb); replace HO448 := zA (Kd.R_elder' (by exact zR HO448) (Kd.R_base ho0) hb); replace HO451 := zA (Kd.R_elder' (by exact zR HO451) (Kd.R_base ho0) hb); replace HB := zA (below_step (by exact zB HB) hb); (try clear hb ho0); obtain ⟨Ao25, co25, eo25⟩ := Kd.R_slice HO_4.out; subst eo25; obtain ⟨Ao26, co26, eo26⟩ := Kd.R_slice HO454.out; subst eo26) | ((with_reducible refine gate_callee (f := 85) rfl ?_); refine goesL_ (some 35) rfl rfl Try.func85 (by kernel_rfl) rfl #[.slice Ao25 x4_1.length co25, .slice Ao26 t452.length co26] rfl (by (try simp only [List.map_toArray, List.map_cons, List.map_nil]); first | done | rfl | (simp only [List.length_drop, List.length_take]; rfl)) ?_; (with_reducible refine (codewrightref01_Add.calls k1 _ _ x4_1 _ _ t452 t455 _ ?side1 ?side2 ?side3 ?side4 A15.out).mono ?_); (case side1 => exact zC ((Kd.R_reads' HO_4.out).2.2)); (case side2 => exact (Kd.R_reads' HO_4.out).2.1); (case side3 => exact zC ((Kd.R_reads' HO454.out).2.2)); (case side4 => exact (Kd.R_reads' HO454.out).2.1); rintro e w27 ⟨v456, rfl, ho0, hb⟩; refine ⟨_, rfl, ?_⟩; have HO457 := zA (Kd.R_lower (Kd.R_new' (Kd.R_new' (Kd.R_new' (Kd.R_new' (Kd.R_new' (Kd.R_new' ho0 (Kd.R_lt (by exact zR HO_4))) (Kd.R_lt (by exact zR HO_5))) (Kd.R_lt (by exact zR HO444))) (Kd.R_lt (by exact zR HO448))) (Kd.R_lt (by exact zR HO451))) (Kd.R_lt (by exact zR HO454))) (below_size (by exact zB HB))); replace HO_4 := zA (Kd.R_elder' (by exact zR HO_4) (Kd.R_base ho0) hb); replace HO_5 := zA (Kd.R_elder' (by exact zR HO_5) (Kd.R_base ho0) hb); replace HO444 := zA (Kd.R_elder' (by exact zR HO444) (Kd.R_base ho0) hb); replace HO448 := zA (Kd.R_elder' (by exact zR HO448) (Kd.R_base ho0) hb); replace HO451 := zA (Kd.R_elder' (by exact zR HO451) (Kd.R_base ho0) hb); replace HO454 := zA (Kd.R_elder' (by exact zR HO454) (Kd.R_base ho0) hb); replace HB := zA (below_step (by exact zB HB) hb); (try clear hb ho0)))
     go_roundg k1
     case measure => have := HK1.out; omega
     case rel => exact ⟨(t455), (t446), (wrap64 (x7_1 - 1)), (by first | rfl | (simp; done) | (simp [*]; done)), H', ⟨by have := HK1.out; omega⟩, ⟨by (with_reducible repeat (first | apply Kd.R_alloc | apply Kd.R_drewN | apply Kd.R_drew)); exact Kd.R_mono HO457.out (fun _ hk => hk.1.1.2)⟩, ⟨by (with_reducible repeat (first | apply Kd.R_alloc | apply Kd.R_drewN | apply Kd.R_drew)); exact Kd.R_mono HO448.out (fun _ hk => hk.2)⟩, ⟨by exact zB HB⟩⟩
    ·
     rw [if_neg c12] at H
     have c12b0 : decide (0 ≤ t445) = false := decide_eq_false c12
     clear c12
     have H' := zA H
     clear H
     go_wp2_with (first | ((with_reducible refine gate_callee (f := 124) rfl ?_); refine goesL_ (some 23) rfl rfl Try.func124 (by kernel_rfl) rfl #[.slice A1 l1.length c1, .int .i64 x7_1] rfl (by (try simp only [List.map_toArray, List.map_cons, List.map_nil]); first | done | rfl | (simp only [List.length_drop, List.length_take]; rfl)) ?_; (with_reducible refine (codewrightref01_shift.calls k1 _ _ l1 x7_1 t442 _ ?side1 ?side2 A10.out).mono ?_); (case side1 => exact zC ((Kd.C_below HR1.out HB.out))); (case side2 => exact HC1.out); rintro e w28 ⟨v443, rfl, ho0, hb⟩; refine ⟨_, rfl, ?_⟩; have HO444 := zA (Kd.R_lower (Kd.R_new' (Kd.R_new' ho0 (Kd.R_lt (by exact zR HO_4))) (Kd.R_lt (by exact zR HO_5))) (below_size (by exact zB HB))); replace HO_4 := zA (Kd.R_elder' (by exact zR HO_4) (Kd.R_base ho0) hb); replace HO_5 := zA (Kd.R_elder' (by exact zR HO_5) (Kd.R_base ho0) hb); replace HB := zA (below_step (by exact zB HB) hb); (try clear hb ho0); obtain ⟨Ao29, co29, eo29⟩ := Kd.R_slice HO_5.out; subst eo29; obtain ⟨Ao30, co30, eo30⟩ := Kd.R_slice HO444.out; subst eo30) | ((with_reducible refine gate_callee (f := 70) rfl ?_); refine goesL_ (some 26) rfl rfl Try.func70 (by kernel_rfl) rfl #[.slice Ao29 x5_1.length co29, .slice Ao30 t442.length co30] rfl (by (try simp only [List.map_toArray, List.map_cons, List.map_nil]); first | done | rfl | (simp only [List.length_drop, List.length_take]; rfl)) ?_; (with_reducible refine (codewrightref01_Cmp.calls k1 _ _ x5_1 _ _ t442 t445 _ ?side1 ?side2 ?side3 ?side4 A11.out).mono ?_); (case side1 => exact zC ((Kd.R_reads' HO_5.out).2.2)); (case side2 => exact (Kd.R_reads' HO_5.out).2.1); (case side3 => exact zC ((Kd.R_reads' HO444.out).2.2)); (case side4 => exact (Kd.R_reads' HO444.out).2.1); rintro e w31 ⟨rfl, hb⟩; refine ⟨_, rfl, ?_⟩; replace HO_4 := zA (Kd.R_below (by exact zR HO_4) hb); replace HO_5 := zA (Kd.R_below (by exact zR HO_5) hb); replace HO444 := zA (Kd.R_below (by exact zR HO444) hb); replace HB := zA (below_step (by exact zB HB) hb); (try clear hb)))
     go_roundg k1
     case measure => have := HK1.out; omega
     case rel => exact ⟨(x4_1), (x5_1), (wrap64 (x7_1 - 1)), (by first | rfl | (simp; done) | (simp [*]; done)), H', ⟨by have := HK1.out; omega⟩, ⟨by (with_reducible repeat (first | apply Kd.R_alloc | apply Kd.R_drewN | apply Kd.R_drew)); exact Kd.R_mono HO_4.out (fun _ hk => hk.1)⟩, ⟨by (with_reducible repeat (first | apply Kd.R_alloc | apply Kd.R_drewN | apply Kd.R_drew)); exact Kd.R_mono HO_5.out (fun _ hk => hk.1)⟩, ⟨by exact zB HB⟩⟩
   ·
    rw [if_neg c9] at H
    have c9b0 : decide (0 ≤ x7_1) = false := decide_eq_false c9
    clear c9
    replace H := Option.bind_eq_some_iff.mp H
    obtain ⟨t439, A320, H⟩ := H
    replace H : (some (t439, x5_1)) = some (r1, r2) := H
    have A32 := zA A320
    clear A320
    simp only [Option.some.injEq, Prod.mk.injEq] at H
    obtain ⟨rfl, rfl⟩ := H
    obtain ⟨Ao33, co33, eo33⟩ := Kd.R_slice HO_4.out
    subst eo33
    go_wp2_with (first | ((with_reducible refine gate_callee (f := 59) rfl ?_); refine goesL_ (some 37) rfl rfl Try.func59 (by kernel_rfl) rfl #[.slice Ao33 x4_1.length co33] rfl (by (try simp only [List.map_toArray, List.map_cons, List.map_nil]); first | done | rfl | (simp only [List.length_drop, List.length_take]; rfl)) ?_; (with_reducible refine (codewrightref01_Trim.calls k1 _ _ x4_1 t439 _ ?side1 ?side2 A32.out).mono ?_); (case side1 => exact zC ((Kd.R_reads' HO_4.out).2.2)); (case side2 => exact (Kd.R_reads' HO_4.out).2.1); rintro e w34 ⟨v440, rfl, ho0, hb⟩; refine ⟨_, rfl, ?_⟩; have HO441 := zA (Kd.R_lower (Kd.R_new' (Kd.R_new' ho0 (Kd.R_lt (by exact zR HO_4))) (Kd.R_lt (by exact zR HO_5))) (below_size (by exact zB HB))); replace HO_4 := zA (Kd.R_elder' (by exact zR HO_4) (Kd.R_base ho0) hb); replace HO_5 := zA (Kd.R_elder' (by exact zR HO_5) (Kd.R_base ho0) hb); replace HB := zA (below_step (by exact zB HB) hb); (try clear hb ho0)))
    go_ret2
    exact ⟨_, _, by first | rfl | (simp [errW_none, errW_some] <;> rfl) | (simp [*, errW_none, errW_some] <;> rfl), by (with_reducible repeat (first | apply Kd.R_alloc | apply Kd.R_drewN | apply Kd.R_drew)); exact Kd.R_mono HO441.out (fun _ hk => hk.2), by (with_reducible repeat (first | apply Kd.R_alloc | apply Kd.R_drewN | apply Kd.R_drew)); exact Kd.R_mono HO_5.out (fun _ hk => hk.2), by exact zB HB⟩
/-! ### codewrightref01_Gcd: function 115 -/
def codewrightref01_Gcd.l0 : Nat → List Int → List Int → Option (List Int)
 | 0, _, _ => none
 | k + 1, x0, x1 => (codewrightref01_Zero.f k x1).bind fun t458 => (if t458 = true then ((codewrightref01_Trim.f k x0).bind fun t459 => (some t459)) else ((codewrightref01_DivMod.f k x0 x1).bind fun bt462 => (codewrightref01_Gcd.l0 k x1 bt462.2)))
def codewrightref01_Gcd.f (k : Nat) (l0 : List Int) (l1 : List Int) : Option (List Int) := codewrightref01_Gcd.l0 k l0 l1
set_option maxHeartbeats 8000000 in
set_option maxRecDepth 100000 in
theorem codewrightref01_Gcd.calls (k : Nat) (P0_ : Nat → Prop) (A0 : Option Addr) (c0 : Nat) (l0 : List Int) (P1_ : Nat → Prop) (A1 : Option Addr) (c1 : Nat) (l1 : List Int) (r : List Int) (w : World) (hs0 : Kd.V (Kd.int .u32) 79 w w.heap.size (fun k_ => P0_ k_) (.slice A0 l0.length c0) l0) (hs1 : Kd.V (Kd.int .u32) 79 w w.heap.size (fun k_ => P1_ k_) (.slice A1 l1.length c1) l1) (h : codewrightref01_Gcd.f k l0 l1 = some r) :
  Calls Try.prog 115 #[.slice A0 l0.length c0, .slice A1 l1.length c1] w fun e w' => ∃ v0_ : Value, e = .returned (v0_) ∧ Kd.R (Kd.int .u32) 79 w' w.heap.size (fun k_ => (w.heap.size ≤ k_)) v0_ r ∧ Below w.heap.size w w' := by
 have HO0 := zA (show Kd.V (Kd.int .u32) 79 w w.heap.size (fun k_ => ((P0_ k_ ∨ P1_ k_) ∨ w.heap.size ≤ k_)) (.slice A0 l0.length c0) l0 from Kd.V_mono hs0 (fun k_ hk => .inl (.inl hk)))
 have HO1 := zA (show Kd.V (Kd.int .u32) 79 w w.heap.size (fun k_ => ((P0_ k_ ∨ P1_ k_) ∨ w.heap.size ≤ k_)) (.slice A1 l1.length c1) l1 from Kd.V_mono hs1 (fun k_ hk => .inl (.inr hk)))
 have HB := zA (Below.refl w.heap.size w)
 have H : (codewrightref01_Gcd.l0 k l0 l1) = some r := h
 clear h
 have H' := zA H
 clear H
 go_enter Try.func115, Try.ntmps115
 go_wp2
 go_loopg [0, 1] k (fun kq v0 v1 w' => ∃ (x0_1 : List Int) (x1_1 : List Int), Aside0 (codewrightref01_Gcd.l0 kq x0_1 x1_1 = some r) ∧ Aside0 (kq ≤ k) ∧ Aside0 (Kd.V (Kd.int .u32) 79 w' w.heap.size (fun k_ => ((P0_ k_ ∨ P1_ k_) ∨ w.heap.size ≤ k_)) v0 x0_1) ∧ Aside0 (Kd.V (Kd.int .u32) 79 w' w.heap.size (fun k_ => ((P0_ k_ ∨ P1_ k_) ∨ w.heap.size ≤ k_)) v1 x1_1) ∧ Aside0 (Below w.heap.size w w'))
 case atStart => exact ⟨(l0), (l1), H', ⟨Nat.le_refl _⟩, ⟨by exact zV HO0⟩, ⟨by exact zV HO1⟩, ⟨by exact zB HB⟩⟩
 case round =>
  clear H'
  try clear c1
  try clear p2
  obtain ⟨x0_1, x1_1, HA, HK1, HO_0, HO_1, HB⟩ := hrel
  cases gk with
  | zero => exact absurd HA.out (by simp [codewrightref01_Gcd.l0])
  | succ k1 =>
   have H := HA.out
   clear HA
   simp only [codewrightref01_Gcd.l0] at H
   replace H := Option.bind_eq_some_iff.mp H
   obtain ⟨t458, A30, H⟩ := H
   replace H : (if t458 = true then ((codewrightref01_Trim.f k1 x0_1).bind fun t459 => (some t459)) else ((codewrightref01_DivMod.f k1 x0_1 x1_1).bind fun bt462 => (codewrightref01_Gcd.l0 k1 x1_1 bt462.2))) = some r := H
   have A3 := zA A30
   clear A30
   by_cases c4 : t458 = true
   ·
    subst c4
    have H1 : ((codewrightref01_Trim.f k1 x0_1).bind fun t459 => (some t459)) = some r := by rw [if_pos rfl] at H; exact H
    clear H
    have H := H1
    clear H1
    replace H := Option.bind_eq_some_iff.mp H
    obtain ⟨t459, A50, H⟩ := H
    replace H : (some t459) = some r := H
    have A5 := zA A50
    clear A50
    obtain rfl := Option.some.inj H
    obtain ⟨Ao6, co6, eo6⟩ := Kd.V_slice HO_1.out
    subst eo6
    go_wp2_with (first | ((with_reducible refine gate_callee (f := 114) rfl ?_); refine goesL_ (some 8) rfl rfl Try.func114 (by kernel_rfl) rfl #[.slice Ao6 x1_1.length co6] rfl (by (try simp only [List.map_toArray, List.map_cons, List.map_nil]); first | done | rfl | (simp only [List.length_drop, List.length_take]; rfl)) ?_; (with_reducible refine (codewrightref01_Zero.calls k1 _ _ x1_1 true _ ?side1 ?side2 A3.out).mono ?_); (case side1 => exact zC ((Kd.V_reads' HO_1.out).2.2)); (case side2 => exact (Kd.V_reads' HO_1.out).2.1); rintro e w7 ⟨rfl, hb⟩; refine ⟨_, rfl, ?_⟩; replace HO_0 := zA (Kd.V_below (by exact zV HO_0) hb); replace HO_1 := zA (Kd.V_below (by exact zV HO_1) hb); replace HB := zA (below_step (by exact zB HB) hb); (try clear hb); obtain ⟨Ao8, co8, eo8⟩ := Kd.V_slice HO_0.out; subst eo8) | ((with_reducible refine gate_callee (f := 59) rfl ?_); refine goesL_ (some 19) rfl rfl Try.func59 (by kernel_rfl) rfl #[.slice Ao8 x0_1.length co8] rfl (by (try simp only [List.map_toArray, List.map_cons, List.map_nil]); first | done | rfl | (simp only [List.length_drop, List.length_take]; rfl)) ?_; (with_reducible refine (codewrightref01_Trim.calls k1 _ _ x0_1 t459 _ ?side1 ?side2 A5.out).mono ?_); (case side1 => exact zC ((Kd.V_reads' HO_0.out).2.2)); (case side2 => exact (Kd.V_reads' HO_0.out).2.1); rintro e w9 ⟨v460, rfl, ho0, hb⟩; refine ⟨_, rfl, ?_⟩; replace HO_0 := zA (Kd.V_elder' (by exact zV HO_0) (Kd.R_base ho0) hb); replace HO_1 := zA (Kd.V_elder' (by exact zV HO_1) (Kd.R_base ho0) hb); have HO461 := zA (Kd.R_lower (Kd.R_newM (M := fun k_ => (w.heap.size ≤ k_)) ho0 (below_size (by exact zB HB)) (fun k_ h_ => h_)) (below_size (by exact zB HB))); replace HB := zA (below_step (by exact zB HB) hb); (try clear hb ho0)))
    go_ret
    exact ⟨_, by first | rfl | (simp [errW_none, errW_some] <;> rfl) | (simp [*, errW_none, errW_some] <;> rfl), by (with_reducible repeat (first | apply Kd.R_alloc | apply Kd.R_drewN | apply Kd.R_drew)); exact Kd.R_mono HO461.out (fun _ hk => hk.1), by exact zB HB⟩
   ·
    replace c4 := Bool.eq_false_iff.mpr c4
    subst c4
    have H1 : ((codewrightref01_DivMod.f k1 x0_1 x1_1).bind fun bt462 => (codewrightref01_Gcd.l0 k1 x1_1 bt462.2)) = some r := by rw [if_neg (show ¬ (false = true) by decide)] at H; exact H
    clear H
    have H := H1
    clear H1
    replace H := Option.bind_eq_some_iff.mp H
    obtain ⟨⟨t462, t463⟩, A100, H⟩ := H
    replace H : (codewrightref01_Gcd.l0 k1 x1_1 t463) = some r := H
    have A10 := zA A100
    clear A100
    have H' := zA H
    clear H
    obtain ⟨Ao11, co11, eo11⟩ := Kd.V_slice HO_1.out
    subst eo11
    go_wp2_with (first | ((with_reducible refine gate_callee (f := 114) rfl ?_); refine goesL_ (some 8) rfl rfl Try.func114 (by kernel_rfl) rfl #[.slice Ao11 x1_1.length co11] rfl (by (try simp only [List.map_toArray, List.map_cons, List.map_nil]); first | done | rfl | (simp only [List.length_drop, List.length_take]; rfl)) ?_; (with_reducible refine (codewrightref01_Zero.calls k1 _ _ x1_1 false _ ?side1 ?side2 A3.out).mono ?_); (case side1 => exact zC ((Kd.V_reads' HO_1.out).2.2)); (case side2 => exact (Kd.V_reads' HO_1.out).2.1); rintro e w12 ⟨rfl, hb⟩; refine ⟨_, rfl, ?_⟩; replace HO_0 := zA (Kd.V_below (by exact zV HO_0) hb); replace HO_1 := zA (Kd.V_below (by exact zV HO_1) hb); replace HB := zA (below_step (by exact zB HB) hb); (try clear hb); obtain ⟨Ao13, co13, eo13⟩ := Kd.V_slice HO_0.out; subst eo13) | ((with_reducible refine gate_callee (f := 116) rfl ?_); refine goesL_ (some 13) rfl rfl Try.func116 (by kernel_rfl) rfl #[.slice Ao13 x0_1.length co13, .slice Ao11 x1_1.length co11] rfl (by (try simp only [List.map_toArray, List.map_cons, List.map_nil]); first | done | rfl | (simp only [List.length_drop, List.length_take]; rfl)) ?_; (with_reducible refine (codewrightref01_DivMod.calls k1 _ _ x0_1 _ _ x1_1 t462 t463 _ ?side1 ?side2 ?side3 ?side4 A10.out).mono ?_); (case side1 => exact zC ((Kd.V_reads' HO_0.out).2.2)); (case side2 => exact (Kd.V_reads' HO_0.out).2.1); (case side3 => exact zC ((Kd.V_reads' HO_1.out).2.2)); (case side4 => exact (Kd.V_reads' HO_1.out).2.1); rintro e w14 ⟨v464, v466, rfl, ho0, ho1, hb⟩; refine ⟨_, rfl, ?_⟩; replace HO_0 := zA (Kd.V_mono (Kd.V_told (Kd.V_told (Kd.V_old (by exact zV HO_0) hb) (Kd.R_base ho0)) (Kd.R_base ho1)) (fun _ h_ => h_.1)); replace HO_1 := zA (Kd.V_mono (Kd.V_told (Kd.V_told (Kd.V_old (by exact zV HO_1) hb) (Kd.R_base ho0)) (Kd.R_base ho1)) (fun _ h_ => h_.1)); have HO465 := zA (Kd.R_lower (Kd.R_newM (M := fun k_ => (w.heap.size ≤ k_)) ho0 (below_size (by exact zB HB)) (fun k_ h_ => h_)) (below_size (by exact zB HB))); have HO467 := zA (Kd.R_lower (Kd.R_newM (M := fun k_ => (w.heap.size ≤ k_)) ho1 (below_size (by exact zB HB)) (fun k_ h_ => h_)) (below_size (by exact zB HB))); replace HB := zA (below_step (by exact zB HB) hb); (try clear hb ho0 ho1)))
    go_roundg k1
    case measure => have := HK1.out; omega
    case rel => exact ⟨(x1_1), (t463), H', ⟨by have := HK1.out; omega⟩, ⟨by (with_reducible repeat (first | apply Kd.V_alloc | apply Kd.V_drewN | apply Kd.V_drew)); exact Kd.V_mono HO_1.out (fun _ hk => hk.1.1)⟩, ⟨Kd.V_mono (Kd.R_V (by (with_reducible repeat (first | apply Kd.R_alloc | apply Kd.R_drewN | apply Kd.R_drew)); exact Kd.R_mono HO467.out (fun _ hk => hk.1))) (fun k_ hk => by first | exact ⟨(.inr (hk.1)), hk.2⟩ | exact (.inr (hk)))⟩, ⟨by exact zB HB⟩⟩
/-! ### codewrightref02_Make: function 84 -/
def codewrightref02_Make.j0 : Nat → Bool → List Int → List Int → Bool → Option (Bool × List Int × List Int)
 | 0, _, _, _, _ => none
 | k + 1, x0, x1, x2, x17 => if x17 = true then (some (false, (([] : List Int)), (([1] : List Int)))) else ((codewrightref01_Gcd.f k x1 x2).bind fun t477 => ((codewrightref01_DivMod.f k x1 t477).bind fun bt480 => ((codewrightref01_DivMod.f k x2 t477).bind fun bt486 => (some (x0, bt480.1, bt486.1)))))
def codewrightref02_Make.f (k : Nat) (a0 : Bool) (l1 : List Int) (l2 : List Int) : Option (Bool × List Int × List Int) := (codewrightref01_Zero.f k l1).bind fun t469 => (if t469 = true then (codewrightref02_Make.j0 k a0 l1 l2 true) else ((codewrightref01_Zero.f k l2).bind fun t470 => (codewrightref02_Make.j0 k a0 l1 l2 t470)))
set_option maxHeartbeats 8000000 in
set_option maxRecDepth 100000 in
theorem codewrightref02_Make.calls (k : Nat) (a0 : Bool) (A1 : Option Addr) (c1 : Nat) (l1 : List Int) (A2 : Option Addr) (c2 : Nat) (l2 : List Int) (r1 : Bool) (r2 : List Int) (r3 : List Int) (w : World) (hr1 : Kd.C (Kd.int .u32) w A1 l1.length l1) (hc1 : l1.length ≤ c1) (hr2 : Kd.C (Kd.int .u32) w A2 l2.length l2) (hc2 : l2.length ≤ c2) (h : codewrightref02_Make.f k a0 l1 l2 = some (r1, r2, r3)) :
  Calls Try.prog 84 #[.bool a0, .slice A1 l1.length c1, .slice A2 l2.length c2] w fun e w' => ∃ v1_ v2_ : Value, e = .returned (.agg #[.bool r1, v1_, v2_]) ∧ Kd.R (Kd.int .u32) 79 w' w.heap.size (fun k_ => some k_ ≠ (v2_ : Value).ownBlock) v1_ r2 ∧ Kd.R (Kd.int .u32) 79 w' w.heap.size (fun k_ => some k_ ≠ (v1_ : Value).ownBlock) v2_ r3 ∧ Below w.heap.size w w' := by
 have hu52 := Try.underlying52
 have HR1 := zA hr1
 have HC1 := zA hc1
 clear hr1 hc1
 have HR2 := zA hr2
 have HC2 := zA hc2
 clear hr2 hc2
 have HB := zA (Below.refl w.heap.size w)
 have H : ((codewrightref01_Zero.f k l1).bind fun t469 => (if t469 = true then (codewrightref02_Make.j0 k a0 l1 l2 true) else ((codewrightref01_Zero.f k l2).bind fun t470 => (codewrightref02_Make.j0 k a0 l1 l2 t470)))) = some (r1, r2, r3) := h
 clear h
 have HC4 := zA H
 clear H
 go_enter Try.func84, Try.ntmps84
 go_upto_region 1 with (first | ((with_reducible refine gate_dst (N := 6) rfl ?_); refine box_event ?hg (N := 6) ?hd (cs := #[.bool false, .slice none 0 0, .slice none 0 0]) (t := 52) ?hr ?_; (case hd => rfl); (case hg => rfl); (case hr => first | (go_simp; done) | (go_simp; rfl)); intro gb468 hg w5 hbox hb; have BK468 := zA (hbox); have GW468 := zA ((by rw [hg]; exact (below_size (by exact zB HB)) : w.heap.size ≤ gb468)); have GE468 := zA ((by rw [hg]; exact (below_size (by exact zB HB)) : w.heap.size ≤ gb468)); replace HB := zA (below_step (by exact zB HB) hb); clear hb hbox hg))
 (try simp only [Act.put, List.setIfInBounds_toArray, List.set_cons_zero, List.set_cons_succ])
 go_cut [17] (fun v17 wc => ∃ (kq : Nat) (x17_3 : Bool), v17 = .bool x17_3 ∧ Aside0 (codewrightref02_Make.j0 kq a0 l1 l2 x17_3 = some (r1, r2, r3)) ∧ Aside0 (kq ≤ k) ∧ Aside0 (wc.heap[gb468]? = some (.cells #[.bool false, (.slice none 0 0), (.slice none 0 0)] 52 (0, 0))) ∧ Aside0 (Below w.heap.size w wc))
 case first =>
  have H := HC4.out
  clear HC4
  replace H := Option.bind_eq_some_iff.mp H
  obtain ⟨t469, A60, H⟩ := H
  replace H : (if t469 = true then (codewrightref02_Make.j0 k a0 l1 l2 true) else ((codewrightref01_Zero.f k l2).bind fun t470 => (codewrightref02_Make.j0 k a0 l1 l2 t470))) = some (r1, r2, r3) := H
  have A6 := zA A60
  clear A60
  by_cases c7 : t469 = true
  ·
   subst c7
   have H1 : (codewrightref02_Make.j0 k a0 l1 l2 true) = some (r1, r2, r3) := by rw [if_pos rfl] at H; exact H
   clear H
   have H := H1
   clear H1
   have H' := zA H
   clear H
   go_wp2_with (first | ((with_reducible refine gate_callee (f := 114) rfl ?_); refine goesL_ (some 13) rfl rfl Try.func114 (by kernel_rfl) rfl #[.slice A1 l1.length c1] rfl (by (try simp only [List.map_toArray, List.map_cons, List.map_nil]); first | done | rfl | (simp only [List.length_drop, List.length_take]; rfl)) ?_; (with_reducible refine (codewrightref01_Zero.calls k _ _ l1 true _ ?side1 ?side2 A6.out).mono ?_); (case side1 => exact zC ((Kd.C_below HR1.out HB.out))); (case side2 => exact HC1.out); rintro e w8 ⟨rfl, hb⟩; refine ⟨_, rfl, ?_⟩; replace BK468 := zA (blk_below (g := gb468) (o := .cells #[.bool false, .slice none 0 0, .slice none 0 0] 52 (0, 0)) (by exact zK BK468) hb); replace HB := zA (below_step (by repeat (first | (with_reducible first | exact HB.out | apply below_alloc | apply pw_below_drewN | apply below_drew1 | refine below_set ?_ GE468.out) | exact HB.out)) hb); (try clear hb)))
   go_meet
   case rel => exact ⟨_, (true), (by first | rfl | (simp; done) | (simp [*]; done)), H', ⟨by first | omega | exact Nat.le_refl _⟩, ⟨by exact zK BK468⟩, ⟨by repeat (first | (with_reducible first | exact HB.out | apply below_alloc | apply pw_below_drewN | apply below_drew1 | refine below_set ?_ GE468.out) | exact HB.out)⟩⟩
  ·
   replace c7 := Bool.eq_false_iff.mpr c7
   subst c7
   have H1 : ((codewrightref01_Zero.f k l2).bind fun t470 => (codewrightref02_Make.j0 k a0 l1 l2 t470)) = some (r1, r2, r3) := by rw [if_neg (show ¬ (false = true) by decide)] at H; exact H
   clear H
   have H := H1
   clear H1
   replace H := Option.bind_eq_some_iff.mp H
   obtain ⟨t470, A90, H⟩ := H
   replace H : (codewrightref02_Make.j0 k a0 l1 l2 t470) = some (r1, r2, r3) := H
   have A9 := zA A90
   clear A90
   have H' := zA H
   clear H
   go_wp2_with (first | ((with_reducible refine gate_callee (f := 114) rfl ?_); refine goesL_ (some 13) rfl rfl Try.func114 (by kernel_rfl) rfl #[.slice A1 l1.length c1] rfl (by (try simp only [List.map_toArray, List.map_cons, List.map_nil]); first | done | rfl | (simp only [List.length_drop, List.length_take]; rfl)) ?_; (with_reducible refine (codewrightref01_Zero.calls k _ _ l1 false _ ?side1 ?side2 A6.out).mono ?_); (case side1 => exact zC ((Kd.C_below HR1.out HB.out))); (case side2 => exact HC1.out); rintro e w10 ⟨rfl, hb⟩; refine ⟨_, rfl, ?_⟩; replace BK468 := zA (blk_below (g := gb468) (o := .cells #[.bool false, .slice none 0 0, .slice none 0 0] 52 (0, 0)) (by exact zK BK468) hb); replace HB := zA (below_step (by repeat (first | (with_reducible first | exact HB.out | apply below_alloc | apply pw_below_drewN | apply below_drew1 | refine below_set ?_ GE468.out) | exact HB.out)) hb); (try clear hb)) | (go_at_call 114; (with_reducible refine (codewrightref01_Zero.calls k _ _ l2 t470 _ ?side1 ?side2 A9.out).mono ?_); (case side1 => exact zC ((Kd.C_below HR2.out HB.out))); (case side2 => exact HC2.out); rintro e w11 ⟨rfl, hb⟩; replace BK468 := zA (blk_below (g := gb468) (o := .cells #[.bool false, .slice none 0 0, .slice none 0 0] 52 (0, 0)) (by exact zK BK468) hb); replace HB := zA (below_step (by repeat (first | (with_reducible first | exact HB.out | apply below_alloc | apply pw_below_drewN | apply below_drew1 | refine below_set ?_ GE468.out) | exact HB.out)) hb); (try clear hb)))
   go_meet
   case rel => exact ⟨_, (t470), (by first | rfl | (simp; done) | (simp [*]; done)), H', ⟨by first | omega | exact Nat.le_refl _⟩, ⟨by exact zK BK468⟩, ⟨by repeat (first | (with_reducible first | exact HB.out | apply below_alloc | apply pw_below_drewN | apply below_drew1 | refine below_set ?_ GE468.out) | exact HB.out)⟩⟩
 case rest =>
  clear HC4
  try clear c1
  try clear c2
  try clear p2
  try clear c7
  try clear c8
  try clear c11
  obtain ⟨kq, x17_3, rfl, HA, HJ3, BK468, HB⟩ := hcut
  cases kq with
  | zero => exact absurd HA.out (by simp [codewrightref02_Make.j0])
  | succ kj3 =>
   have H := HA.out
   clear HA
   simp only [codewrightref02_Make.j0] at H
   by_cases c12 : x17_3 = true
   ·
    subst c12
    have H1 : (some (false, (([] : List Int)), (([1] : List Int)))) = some (r1, r2, r3) := by rw [if_pos rfl] at H; exact H
    clear H
    have H := H1
    clear H1
    obtain ⟨y471, hy471⟩ : ∃ y_ : List Int, y_ = (([] : List Int)) := ⟨_, rfl⟩
    replace H : (some (false, y471, (([1] : List Int)))) = some (r1, r2, r3) := by first | (rw [hy471]; with_reducible exact H) | (have H := (Option.bind_some _ _).symm.trans H; first | (rw [hy471]; with_reducible exact H) | with_reducible exact H) | (rw [hy471]; exact H) | exact H
    have Ny471 := zA hy471
    clear hy471
    obtain ⟨y474, hy474⟩ : ∃ y_ : List Int, y_ = (([1] : List Int)) := ⟨_, rfl⟩
    replace H : (some (false, y471, y474)) = some (r1, r2, r3) := by first | (rw [hy474]; with_reducible exact H) | (have H := (Option.bind_some _ _).symm.trans H; first | (rw [hy474]; with_reducible exact H) | with_reducible exact H) | (rw [hy474]; exact H) | exact H
    have Ny474 := zA hy474
    clear hy474
    simp only [Option.some.injEq, Prod.mk.injEq] at H
    obtain ⟨rfl, rfl, rfl⟩ := H
    go_wp2_with (first | ((with_reducible refine gate_dst (N := 18) rfl ?_); refine Kd.R_lit (Kd.int .u32) _ 79 ?hg (N := 18) ?hd (xs := ([] : List Int)) (inner := []) (ok := fun _ => True) (okp := fun _ => True) ?hr ?hp (fun _ hk => hk) trivial (Below.refl _ _) (Nat.le_refl _) (by simp) ?_; (case hd => rfl); (case hg => rfl); (case hr => first | (go_simp; done) | (go_simp; rfl)); (case hp => exact (Reps.none _ _)); intro v472 w13 ho14 hb hg_ hnew_; clear hg_ hnew_; (first | rw [← Ny471.out] at ho14 | (simp only [Int.reduceToNat] at ho14; rw [← Ny471.out] at ho14)); have HO473 := zA (Kd.R_lower ho14 (below_size (by repeat (first | (with_reducible first | exact HB.out | apply below_alloc | apply pw_below_drewN | apply below_drew1 | refine below_set ?_ GE468.out) | exact HB.out)))); replace BK468 := zA (blk_below (g := gb468) (o := .cells #[.bool false, .slice none 0 0, .slice none 0 0] 52 (0, 0)) (by exact zK BK468) hb); replace HB := zA (below_step (by repeat (first | (with_reducible first | exact HB.out | apply below_alloc | apply pw_below_drewN | apply below_drew1 | refine below_set ?_ GE468.out) | exact HB.out)) hb); clear hb ho14) | ((with_reducible refine gate_dst (N := 19) rfl ?_); refine Kd.R_lit (Kd.int .u32) _ 79 ?hg (N := 19) ?hd (xs := ([1] : List Int)) (inner := [.int .u32 1]) (ok := fun _ => True) (okp := fun _ => True) ?hr ?hp (fun _ hk => hk) trivial (Below.refl _ _) (Nat.le_refl _) (by simp) ?_; (case hd => rfl); (case hg => rfl); (case hr => first | (go_simp; done) | (go_simp; rfl)); (case hp => exact (Reps.one (show Kd.M (Kd.int .u32) _ _ _ 1 [.int .u32 1] from rfl) (Reps.none _ _))); intro v475 w15 ho16 hb hg_ hnew_; clear hg_ hnew_; (first | rw [← Ny474.out] at ho16 | (simp only [Int.reduceToNat] at ho16; rw [← Ny474.out] at ho16)); have HO476 := zA (Kd.R_lower (Kd.R_new' ho16 (Kd.R_lt (by exact zR HO473))) (below_size (by repeat (first | (with_reducible first | exact HB.out | apply below_alloc | apply pw_below_drewN | apply below_drew1 | refine below_set ?_ GE468.out) | exact HB.out)))); replace HO473 := zA (Kd.R_elder' (by exact zR HO473) (Kd.R_base ho16) hb); replace BK468 := zA (blk_below (g := gb468) (o := .cells #[.bool false, .slice none 0 0, .slice none 0 0] 52 (0, 0)) (by exact zK BK468) hb); replace HB := zA (below_step (by repeat (first | (with_reducible first | exact HB.out | apply below_alloc | apply pw_below_drewN | apply below_drew1 | refine below_set ?_ GE468.out) | exact HB.out)) hb); clear hb ho16; obtain ⟨Ao17, co17, eo17⟩ := Kd.R_slice HO476.out; subst eo17; obtain ⟨Ao18, co18, eo18⟩ := Kd.R_slice HO473.out; subst eo18; have hcz19_0 : w15.cell? ⟨gb468, 0, none⟩ = some (.bool false) := (blk_cell BK468.out 0).trans rfl; have hcz19_1 : w15.cell? ⟨gb468, 1, none⟩ = some (.slice none 0 0) := (blk_cell BK468.out 1).trans rfl; have hcz19_2 : w15.cell? ⟨gb468, 2, none⟩ = some (.slice none 0 0) := (blk_cell BK468.out 2).trans rfl; have hfz19_0 := blk_frozen BK468.out 0; have hfz19_1 := blk_frozen BK468.out 1; have hfz19_2 := blk_frozen BK468.out 2))
    refine bodyPost_ret (results_cell_row rfl _ _ gb468 52 #[.bool false, .slice Ao18 y471.length co18, .slice Ao17 y474.length co17] (0, 0) _ rfl (by (with_reducible repeat (first | refine blk_drewN ?_ _ | refine blk_drew ?_ | refine blk_alloc ?_ _)); refine blk_put (cs := #[.bool false, .slice Ao18 y471.length co18, .slice none 0 0]) ?_ 2 _ rfl; (with_reducible repeat (first | refine blk_drewN ?_ _ | refine blk_drew ?_ | refine blk_alloc ?_ _)); refine blk_put (cs := #[.bool false, .slice none 0 0, .slice none 0 0]) ?_ 1 _ rfl; (with_reducible repeat (first | refine blk_drewN ?_ _ | refine blk_drew ?_ | refine blk_alloc ?_ _)); refine blk_put (cs := #[.bool false, .slice none 0 0, .slice none 0 0]) ?_ 0 _ rfl; exact zK BK468) Try.underlying52 rfl (by kernel_rfl)) rfl ?_
    exact ⟨_, _, by first | rfl | (simp [errW_none, errW_some] <;> rfl) | (simp [*, errW_none, errW_some] <;> rfl), by (with_reducible repeat (first | apply Kd.R_alloc | apply Kd.R_drewN | apply Kd.R_drew)); exact Kd.R_mono (Kd.R_far (p := ⟨gb468, 2, none⟩) (Kd.R_far (p := ⟨gb468, 1, none⟩) (Kd.R_far (p := ⟨gb468, 0, none⟩) (Kd.R_types HO473.out BK468.out (by decide)) (fun _ hk => hk.2) (.bool false)) (fun _ hk => hk.2) (.slice Ao18 y471.length co18)) (fun _ hk => hk.2) (.slice Ao17 y474.length co17)) (fun _ hk => hk.1.2), by (with_reducible repeat (first | apply Kd.R_alloc | apply Kd.R_drewN | apply Kd.R_drew)); exact Kd.R_mono (Kd.R_far (p := ⟨gb468, 2, none⟩) (Kd.R_far (p := ⟨gb468, 1, none⟩) (Kd.R_far (p := ⟨gb468, 0, none⟩) (Kd.R_types HO476.out BK468.out (by decide)) (fun _ hk => hk.2) (.bool false)) (fun _ hk => hk.2) (.slice Ao18 y471.length co18)) (fun _ hk => hk.2) (.slice Ao17 y474.length co17)) (fun _ hk => hk.1.2), by repeat (first | (with_reducible first | exact HB.out | apply below_alloc | apply pw_below_drewN | apply below_drew1 | refine below_set ?_ GE468.out) | exact HB.out)⟩
   ·
    replace c12 := Bool.eq_false_iff.mpr c12
    subst c12
    have H1 : ((codewrightref01_Gcd.f kj3 l1 l2).bind fun t477 => ((codewrightref01_DivMod.f kj3 l1 t477).bind fun bt480 => ((codewrightref01_DivMod.f kj3 l2 t477).bind fun bt486 => (some (a0, bt480.1, bt486.1))))) = some (r1, r2, r3) := by rw [if_neg (show ¬ (false = true) by decide)] at H; exact H
    clear H
    have H := H1
    clear H1
    replace H := Option.bind_eq_some_iff.mp H
    obtain ⟨t477, A200, H⟩ := H
    replace H : ((codewrightref01_DivMod.f kj3 l1 t477).bind fun bt480 => ((codewrightref01_DivMod.f kj3 l2 t477).bind fun bt486 => (some (a0, bt480.1, bt486.1)))) = some (r1, r2, r3) := H
    have A20 := zA A200
    clear A200
    replace H := Option.bind_eq_some_iff.mp H
    obtain ⟨⟨t480, t481⟩, A210, H⟩ := H
    replace H : ((codewrightref01_DivMod.f kj3 l2 t477).bind fun bt486 => (some (a0, t480, bt486.1))) = some (r1, r2, r3) := H
    have A21 := zA A210
    clear A210
    replace H := Option.bind_eq_some_iff.mp H
    obtain ⟨⟨t486, t487⟩, A220, H⟩ := H
    replace H : (some (a0, t480, t486)) = some (r1, r2, r3) := H
    have A22 := zA A220
    clear A220
    simp only [Option.some.injEq, Prod.mk.injEq] at H
    obtain ⟨rfl, rfl, rfl⟩ := H
    go_wp2_with (first | ((with_reducible refine gate_callee (f := 115) rfl ?_); refine goesL_ (some 23) rfl rfl Try.func115 (by kernel_rfl) rfl #[.slice A1 l1.length c1, .slice A2 l2.length c2] rfl (by (try simp only [List.map_toArray, List.map_cons, List.map_nil]); first | done | rfl | (simp only [List.length_drop, List.length_take]; rfl)) ?_; (with_reducible refine (codewrightref01_Gcd.calls kj3 (fun k_ => k_ < w.heap.size) _ _ l1 (fun k_ => k_ < w.heap.size) _ _ l2 t477 _ ?side1 ?side2 A20.out).mono ?_); (case side1 => exact Kd.V_mk HC1.out (Kd.F_below (Kd.C_F (Kd.heap_int .u32) HR1.out) (by repeat (first | (with_reducible first | exact HB.out | apply below_alloc | apply pw_below_drewN | apply below_drew1 | refine below_set ?_ GE468.out) | exact HB.out)))); (case side2 => exact Kd.V_mk HC2.out (Kd.F_below (Kd.C_F (Kd.heap_int .u32) HR2.out) (by repeat (first | (with_reducible first | exact HB.out | apply below_alloc | apply pw_below_drewN | apply below_drew1 | refine below_set ?_ GE468.out) | exact HB.out)))); rintro e w23 ⟨v478, rfl, ho0, hb⟩; refine ⟨_, rfl, ?_⟩; have HO479 := zA (Kd.R_lower (Kd.R_mono (ok' := fun k_ => True) ho0 (fun _ hk_ => trivial)) (below_size (by repeat (first | (with_reducible first | exact HB.out | apply below_alloc | apply pw_below_drewN | apply below_drew1 | refine below_set ?_ GE468.out) | exact HB.out)))); replace BK468 := zA (blk_below (g := gb468) (o := .cells #[.bool false, .slice none 0 0, .slice none 0 0] 52 (0, 0)) (by exact zK BK468) hb); replace HB := zA (below_step (by repeat (first | (with_reducible first | exact HB.out | apply below_alloc | apply pw_below_drewN | apply below_drew1 | refine below_set ?_ GE468.out) | exact HB.out)) hb); (try clear hb ho0); obtain ⟨Ao24, co24, eo24⟩ := Kd.R_slice HO479.out; subst eo24) | ((with_reducible refine gate_callee (f := 116) rfl ?_); refine goesL_ (some 27) rfl rfl Try.func116 (by kernel_rfl) rfl #[.slice A1 l1.length c1, .slice Ao24 t477.length co24] rfl (by (try simp only [List.map_toArray, List.map_cons, List.map_nil]); first | done | rfl | (simp only [List.length_drop, List.length_take]; rfl)) ?_; (with_reducible refine (codewrightref01_DivMod.calls kj3 _ _ l1 _ _ t477 t480 t481 _ ?side1 ?side2 ?side3 ?side4 A21.out).mono ?_); (case side1 => exact zC ((Kd.C_below HR1.out HB.out))); (case side2 => exact HC1.out); (case side3 => exact zC ((Kd.R_reads' HO479.out).2.2)); (case side4 => exact (Kd.R_reads' HO479.out).2.1); rintro e w25 ⟨v482, v484, rfl, ho0, ho1, hb⟩; refine ⟨_, rfl, ?_⟩; have HO483 := zA (Kd.R_lower (Kd.R_new' ho0 (Kd.R_lt (by exact zR HO479))) (below_size (by repeat (first | (with_reducible first | exact HB.out | apply below_alloc | apply pw_below_drewN | apply below_drew1 | refine below_set ?_ GE468.out) | exact HB.out)))); have HO485 := zA (Kd.R_lower (Kd.R_new' ho1 (Kd.R_lt (by exact zR HO479))) (below_size (by repeat (first | (with_reducible first | exact HB.out | apply below_alloc | apply pw_below_drewN | apply below_drew1 | refine below_set ?_ GE468.out) | exact HB.out)))); replace HO479 := zA (Kd.R_mono (Kd.R_told (Kd.R_told (Kd.R_old (by exact zR HO479) hb) (Kd.R_base ho0)) (Kd.R_base ho1)) (fun _ h_ => h_.1)); replace BK468 := zA (blk_below (g := gb468) (o := .cells #[.bool false, .slice none 0 0, .slice none 0 0] 52 (0, 0)) (by exact zK BK468) hb); replace HB := zA (below_step (by repeat (first | (with_reducible first | exact HB.out | apply below_alloc | apply pw_below_drewN | apply below_drew1 | refine below_set ?_ GE468.out) | exact HB.out)) hb); (try clear hb ho0 ho1)) | ((with_reducible refine gate_callee (f := 116) rfl ?_); refine goesL_ (some 33) rfl rfl Try.func116 (by kernel_rfl) rfl #[.slice A2 l2.length c2, .slice Ao24 t477.length co24] rfl (by (try simp only [List.map_toArray, List.map_cons, List.map_nil]); first | done | rfl | (simp only [List.length_drop, List.length_take]; rfl)) ?_; (with_reducible refine (codewrightref01_DivMod.calls kj3 _ _ l2 _ _ t477 t486 t487 _ ?side1 ?side2 ?side3 ?side4 A22.out).mono ?_); (case side1 => exact zC ((Kd.C_below HR2.out HB.out))); (case side2 => exact HC2.out); (case side3 => exact zC ((Kd.R_reads' HO479.out).2.2)); (case side4 => exact (Kd.R_reads' HO479.out).2.1); rintro e w26 ⟨v488, v490, rfl, ho0, ho1, hb⟩; refine ⟨_, rfl, ?_⟩; have HO489 := zA (Kd.R_lower (Kd.R_new' (Kd.R_new' (Kd.R_new' ho0 (Kd.R_lt (by exact zR HO479))) (Kd.R_lt (by exact zR HO483))) (Kd.R_lt (by exact zR HO485))) (below_size (by repeat (first | (with_reducible first | exact HB.out | apply below_alloc | apply pw_below_drewN | apply below_drew1 | refine below_set ?_ GE468.out) | exact HB.out)))); have HO491 := zA (Kd.R_lower (Kd.R_new' (Kd.R_new' (Kd.R_new' ho1 (Kd.R_lt (by exact zR HO479))) (Kd.R_lt (by exact zR HO483))) (Kd.R_lt (by exact zR HO485))) (below_size (by repeat (first | (with_reducible first | exact HB.out | apply below_alloc | apply pw_below_drewN | apply below_drew1 | refine below_set ?_ GE468.out) | exact HB.out)))); replace HO479 := zA (Kd.R_mono (Kd.R_told (Kd.R_told (Kd.R_old (by exact zR HO479) hb) (Kd.R_base ho0)) (Kd.R_base ho1)) (fun _ h_ => h_.1)); replace HO483 := zA (Kd.R_mono (Kd.R_told (Kd.R_told (Kd.R_old (by exact zR HO483) hb) (Kd.R_base ho0)) (Kd.R_base ho1)) (fun _ h_ => h_.1)); replace HO485 := zA (Kd.R_mono (Kd.R_told (Kd.R_told (Kd.R_old (by exact zR HO485) hb) (Kd.R_base ho0)) (Kd.R_base ho1)) (fun _ h_ => h_.1)); replace BK468 := zA (blk_below (g := gb468) (o := .cells #[.bool false, .slice none 0 0, .slice none 0 0] 52 (0, 0)) (by exact zK BK468) hb); replace HB := zA (below_step (by repeat (first | (with_reducible first | exact HB.out | apply below_alloc | apply pw_below_drewN | apply below_drew1 | refine below_set ?_ GE468.out) | exact HB.out)) hb); (try clear hb ho0 ho1); obtain ⟨Ao27, co27, eo27⟩ := Kd.R_slice HO489.out; subst eo27; obtain ⟨Ao28, co28, eo28⟩ := Kd.R_slice HO483.out; subst eo28; have hcz29_0 : w26.cell? ⟨gb468, 0, none⟩ = some (.bool false) := (blk_cell BK468.out 0).trans rfl; have hcz29_1 : w26.cell? ⟨gb468, 1, none⟩ = some (.slice none 0 0) := (blk_cell BK468.out 1).trans rfl; have hcz29_2 : w26.cell? ⟨gb468, 2, none⟩ = some (.slice none 0 0) := (blk_cell BK468.out 2).trans rfl; have hfz29_0 := blk_frozen BK468.out 0; have hfz29_1 := blk_frozen BK468.out 1; have hfz29_2 := blk_frozen BK468.out 2))
    refine bodyPost_ret (results_cell_row rfl _ _ gb468 52 #[.bool a0, .slice Ao28 t480.length co28, .slice Ao27 t486.length co27] (0, 0) _ rfl (by (with_reducible repeat (first | refine blk_drewN ?_ _ | refine blk_drew ?_ | refine blk_alloc ?_ _)); refine blk_put (cs := #[.bool a0, .slice Ao28 t480.length co28, .slice none 0 0]) ?_ 2 _ rfl; (with_reducible repeat (first | refine blk_drewN ?_ _ | refine blk_drew ?_ | refine blk_alloc ?_ _)); refine blk_put (cs := #[.bool a0, .slice none 0 0, .slice none 0 0]) ?_ 1 _ rfl; (with_reducible repeat (first | refine blk_drewN ?_ _ | refine blk_drew ?_ | refine blk_alloc ?_ _)); refine blk_put (cs := #[.bool false, .slice none 0 0, .slice none 0 0]) ?_ 0 _ rfl; exact zK BK468) Try.underlying52 rfl (by kernel_rfl)) rfl ?_
    exact ⟨_, _, by first | rfl | (simp [errW_none, errW_some] <;> rfl) | (simp [*, errW_none, errW_some] <;> rfl), by (with_reducible repeat (first | apply Kd.R_alloc | apply Kd.R_drewN | apply Kd.R_drew)); exact Kd.R_mono (Kd.R_far (p := ⟨gb468, 2, none⟩) (Kd.R_far (p := ⟨gb468, 1, none⟩) (Kd.R_far (p := ⟨gb468, 0, none⟩) (Kd.R_types HO483.out BK468.out (by decide)) (fun _ hk => hk.2) (.bool a0)) (fun _ hk => hk.2) (.slice Ao28 t480.length co28)) (fun _ hk => hk.2) (.slice Ao27 t486.length co27)) (fun _ hk => hk.1.1.2), by (with_reducible repeat (first | apply Kd.R_alloc | apply Kd.R_drewN | apply Kd.R_drew)); exact Kd.R_mono (Kd.R_far (p := ⟨gb468, 2, none⟩) (Kd.R_far (p := ⟨gb468, 1, none⟩) (Kd.R_far (p := ⟨gb468, 0, none⟩) (Kd.R_types HO489.out BK468.out (by decide)) (fun _ hk => hk.2) (.bool a0)) (fun _ hk => hk.2) (.slice Ao28 t480.length co28)) (fun _ hk => hk.2) (.slice Ao27 t486.length co27)) (fun _ hk => hk.1.1.2), by repeat (first | (with_reducible first | exact HB.out | apply below_alloc | apply pw_below_drewN | apply below_drew1 | refine below_set ?_ GE468.out) | exact HB.out)⟩
/-! ### codewrightref01_Of: function 18 -/
def codewrightref01_Of.f (k : Nat) (a0 : Int) : Option (List Int) := (codewrightref01_Trim.f k (([(Int.tmod a0 4294967296) % 4294967296, (IntKind.u64.wrap (Int.tdiv a0 4294967296)) % 4294967296] : List Int))).bind fun t495 => (some t495)
set_option maxHeartbeats 8000000 in
set_option maxRecDepth 100000 in
theorem codewrightref01_Of.calls (k : Nat) (a0 : Int) (r : List Int) (w : World) (h : codewrightref01_Of.f k a0 = some r) :
  Calls Try.prog 18 #[.int .u64 a0] w fun e w' => ∃ v0_ : Value, e = .returned (v0_) ∧ Kd.R (Kd.int .u32) 79 w' w.heap.size (fun _ => True) v0_ r ∧ Below w.heap.size w w' := by
 have HB := zA (Below.refl w.heap.size w)
 have H : ((codewrightref01_Trim.f k (([(Int.tmod a0 4294967296) % 4294967296, (IntKind.u64.wrap (Int.tdiv a0 4294967296)) % 4294967296] : List Int))).bind fun t495 => (some t495)) = some r := h
 clear h
 obtain ⟨y492, hy492⟩ : ∃ y_ : List Int, y_ = (([(Int.tmod a0 4294967296) % 4294967296, (IntKind.u64.wrap (Int.tdiv a0 4294967296)) % 4294967296] : List Int)) := ⟨_, rfl⟩
 replace H : ((codewrightref01_Trim.f k y492).bind fun t495 => (some t495)) = some r := by first | (rw [hy492]; with_reducible exact H) | (have H := (Option.bind_some _ _).symm.trans H; first | (rw [hy492]; with_reducible exact H) | with_reducible exact H) | (rw [hy492]; exact H) | exact H
 have Ny492 := zA hy492
 clear hy492
 replace H := Option.bind_eq_some_iff.mp H
 obtain ⟨t495, A20, H⟩ := H
 replace H : (some t495) = some r := H
 have A2 := zA A20
 clear A20
 obtain rfl := Option.some.inj H
 go_enter Try.func18, Try.ntmps18
 go_wp2_with (first | ((with_reducible refine gate_dst (N := 9) rfl ?_); refine Kd.R_lit (Kd.int .u32) _ 79 ?hg (N := 9) ?hd (xs := ([(Int.tmod a0 4294967296) % 4294967296, (IntKind.u64.wrap (Int.tdiv a0 4294967296)) % 4294967296] : List Int)) (inner := [.int .u32 ((Int.tmod a0 4294967296) % 4294967296), .int .u32 ((IntKind.u64.wrap (Int.tdiv a0 4294967296)) % 4294967296)]) (ok := fun _ => True) (okp := fun _ => True) ?hr ?hp (fun _ hk => hk) trivial (Below.refl _ _) (Nat.le_refl _) (by simp) ?_; (case hd => rfl); (case hg => rfl); (case hr => first | (go_simp; done) | (go_simp; rfl)); (case hp => exact (Reps.one (show Kd.M (Kd.int .u32) _ _ _ ((Int.tmod a0 4294967296) % 4294967296) [.int .u32 ((Int.tmod a0 4294967296) % 4294967296)] from rfl) (Reps.one (show Kd.M (Kd.int .u32) _ _ _ ((IntKind.u64.wrap (Int.tdiv a0 4294967296)) % 4294967296) [.int .u32 ((IntKind.u64.wrap (Int.tdiv a0 4294967296)) % 4294967296)] from rfl) (Reps.none _ _)))); intro v493 w3 ho4 hb hg_ hnew_; clear hg_ hnew_; (first | rw [← Ny492.out] at ho4 | (simp only [Int.reduceToNat] at ho4; rw [← Ny492.out] at ho4)); have HO494 := zA (Kd.R_lower ho4 (below_size (by exact zB HB))); replace HB := zA (below_step (by exact zB HB) hb); clear hb ho4; obtain ⟨Ao5, co5, eo5⟩ := Kd.R_slice HO494.out; subst eo5) | ((with_reducible refine gate_callee (f := 59) rfl ?_); refine goesL_ (some 10) rfl rfl Try.func59 (by kernel_rfl) rfl #[.slice Ao5 y492.length co5] rfl (by (try simp only [List.map_toArray, List.map_cons, List.map_nil]); first | done | rfl | (simp only [List.length_drop, List.length_take]; rfl)) ?_; (with_reducible refine (codewrightref01_Trim.calls k _ _ y492 t495 _ ?side1 ?side2 A2.out).mono ?_); (case side1 => exact zC ((Kd.R_reads' HO494.out).2.2)); (case side2 => exact (Kd.R_reads' HO494.out).2.1); rintro e w6 ⟨v496, rfl, ho0, hb⟩; refine ⟨_, rfl, ?_⟩; have HO497 := zA (Kd.R_lower (Kd.R_new' ho0 (Kd.R_lt (by exact zR HO494))) (below_size (by exact zB HB))); replace HO494 := zA (Kd.R_elder' (by exact zR HO494) (Kd.R_base ho0) hb); replace HB := zA (below_step (by exact zB HB) hb); (try clear hb ho0)))
 go_ret
 exact ⟨_, by first | rfl | (simp [errW_none, errW_some] <;> rfl) | (simp [*, errW_none, errW_some] <;> rfl), by (with_reducible repeat (first | apply Kd.R_alloc | apply Kd.R_drewN | apply Kd.R_drew)); exact Kd.R_mono HO497.out (fun _ hk => trivial), by exact zB HB⟩
/-! ### codewrightref02_abs: function 101 -/
def codewrightref02_abs.f (k : Nat) (a0 : Int) : Option (List Int) := if a0 < 0 then ((codewrightref01_Of.f k (IntKind.u64.wrap (wrap64 (-(wrap64 (a0 + 1)))))).bind fun t498 => ((codewrightref01_Add.f k t498 (([1] : List Int))).bind fun t504 => (some t504))) else ((codewrightref01_Of.f k (IntKind.u64.wrap (a0))).bind fun t507 => (some t507))
set_option maxHeartbeats 8000000 in
set_option maxRecDepth 100000 in
theorem codewrightref02_abs.calls (k : Nat) (a0 : Int) (r : List Int) (w : World) (h : codewrightref02_abs.f k a0 = some r) :
  Calls Try.prog 101 #[.int .i64 a0] w fun e w' => ∃ v0_ : Value, e = .returned (v0_) ∧ Kd.R (Kd.int .u32) 79 w' w.heap.size (fun _ => True) v0_ r ∧ Below w.heap.size w w' := by
 have HB := zA (Below.refl w.heap.size w)
 have H : (if a0 < 0 then ((codewrightref01_Of.f k (IntKind.u64.wrap (wrap64 (-(wrap64 (a0 + 1)))))).bind fun t498 => ((codewrightref01_Add.f k t498 (([1] : List Int))).bind fun t504 => (some t504))) else ((codewrightref01_Of.f k (IntKind.u64.wrap (a0))).bind fun t507 => (some t507))) = some r := h
 clear h
 by_cases c2 : a0 < 0
 ·
  rw [if_pos c2] at H
  have c2b0 : decide (a0 < 0) = true := decide_eq_true c2
  clear c2
  replace H := Option.bind_eq_some_iff.mp H
  obtain ⟨t498, A30, H⟩ := H
  replace H : ((codewrightref01_Add.f k t498 (([1] : List Int))).bind fun t504 => (some t504)) = some r := H
  have A3 := zA A30
  clear A30
  obtain ⟨y501, hy501⟩ : ∃ y_ : List Int, y_ = (([1] : List Int)) := ⟨_, rfl⟩
  replace H : ((codewrightref01_Add.f k t498 y501).bind fun t504 => (some t504)) = some r := by first | (rw [hy501]; with_reducible exact H) | (have H := (Option.bind_some _ _).symm.trans H; first | (rw [hy501]; with_reducible exact H) | with_reducible exact H) | (rw [hy501]; exact H) | exact H
  have Ny501 := zA hy501
  clear hy501
  replace H := Option.bind_eq_some_iff.mp H
  obtain ⟨t504, A40, H⟩ := H
  replace H : (some t504) = some r := H
  have A4 := zA A40
  clear A40
  obtain rfl := Option.some.inj H
  go_enter Try.func101, Try.ntmps101
  go_wp2_with (first | ((with_reducible refine gate_callee (f := 18) rfl ?_); refine goesL_ (some 9) rfl rfl Try.func18 (by kernel_rfl) rfl #[.int .u64 (IntKind.u64.wrap (wrap64 (-(wrap64 (a0 + 1)))))] rfl (by (try simp only [List.map_toArray, List.map_cons, List.map_nil]); first | done | rfl | (simp only [List.length_drop, List.length_take]; rfl)) ?_; (with_reducible refine (codewrightref01_Of.calls k (IntKind.u64.wrap (wrap64 (-(wrap64 (a0 + 1))))) t498 _ A3.out).mono ?_); rintro e w5 ⟨v499, rfl, ho0, hb⟩; refine ⟨_, rfl, ?_⟩; have HO500 := zA (Kd.R_lower ho0 (below_size (by exact zB HB))); replace HB := zA (below_step (by exact zB HB) hb); (try clear hb ho0)) | ((with_reducible refine gate_dst (N := 10) rfl ?_); refine Kd.R_lit (Kd.int .u32) _ 79 ?hg (N := 10) ?hd (xs := ([1] : List Int)) (inner := [.int .u32 1]) (ok := fun _ => True) (okp := fun _ => True) ?hr ?hp (fun _ hk => hk) trivial (Below.refl _ _) (Nat.le_refl _) (by simp) ?_; (case hd => rfl); (case hg => rfl); (case hr => first | (go_simp; done) | (go_simp; rfl)); (case hp => exact (Reps.one (show Kd.M (Kd.int .u32) _ _ _ 1 [.int .u32 1] from rfl) (Reps.none _ _))); intro v502 w6 ho7 hb hg_ hnew_; clear hg_ hnew_; (first | rw [← Ny501.out] at ho7 | (simp only [Int.reduceToNat] at ho7; rw [← Ny501.out] at ho7)); have HO503 := zA (Kd.R_lower (Kd.R_new' ho7 (Kd.R_lt (by exact zR HO500))) (below_size (by exact zB HB))); replace HO500 := zA (Kd.R_elder' (by exact zR HO500) (Kd.R_base ho7) hb); replace HB := zA (below_step (by exact zB HB) hb); clear hb ho7; obtain ⟨Ao8, co8, eo8⟩ := Kd.R_slice HO500.out; subst eo8; obtain ⟨Ao9, co9, eo9⟩ := Kd.R_slice HO503.out; subst eo9) | ((with_reducible refine gate_callee (f := 85) rfl ?_); refine goesL_ (some 11) rfl rfl Try.func85 (by kernel_rfl) rfl #[.slice Ao8 t498.length co8, .slice Ao9 y501.length co9] rfl (by (try simp only [List.map_toArray, List.map_cons, List.map_nil]); first | done | rfl | (simp only [List.length_drop, List.length_take]; rfl)) ?_; (with_reducible refine (codewrightref01_Add.calls k _ _ t498 _ _ y501 t504 _ ?side1 ?side2 ?side3 ?side4 A4.out).mono ?_); (case side1 => exact zC ((Kd.R_reads' HO500.out).2.2)); (case side2 => exact (Kd.R_reads' HO500.out).2.1); (case side3 => exact zC ((Kd.R_reads' HO503.out).2.2)); (case side4 => exact (Kd.R_reads' HO503.out).2.1); rintro e w10 ⟨v505, rfl, ho0, hb⟩; refine ⟨_, rfl, ?_⟩; have HO506 := zA (Kd.R_lower (Kd.R_new' (Kd.R_new' ho0 (Kd.R_lt (by exact zR HO500))) (Kd.R_lt (by exact zR HO503))) (below_size (by exact zB HB))); replace HO500 := zA (Kd.R_elder' (by exact zR HO500) (Kd.R_base ho0) hb); replace HO503 := zA (Kd.R_elder' (by exact zR HO503) (Kd.R_base ho0) hb); replace HB := zA (below_step (by exact zB HB) hb); (try clear hb ho0)))
  go_ret
  exact ⟨_, by first | rfl | (simp [errW_none, errW_some] <;> rfl) | (simp [*, errW_none, errW_some] <;> rfl), by (with_reducible repeat (first | apply Kd.R_alloc | apply Kd.R_drewN | apply Kd.R_drew)); exact Kd.R_mono HO506.out (fun _ hk => trivial), by exact zB HB⟩
 ·
  rw [if_neg c2] at H
  have c2b0 : decide (a0 < 0) = false := decide_eq_false c2
  clear c2
  replace H := Option.bind_eq_some_iff.mp H
  obtain ⟨t507, A110, H⟩ := H
  replace H : (some t507) = some r := H
  have A11 := zA A110
  clear A110
  obtain rfl := Option.some.inj H
  go_enter Try.func101, Try.ntmps101
  go_wp2_with (first | ((with_reducible refine gate_callee (f := 18) rfl ?_); refine goesL_ (some 14) rfl rfl Try.func18 (by kernel_rfl) rfl #[.int .u64 (IntKind.u64.wrap (a0))] rfl (by (try simp only [List.map_toArray, List.map_cons, List.map_nil]); first | done | rfl | (simp only [List.length_drop, List.length_take]; rfl)) ?_; (with_reducible refine (codewrightref01_Of.calls k (IntKind.u64.wrap (a0)) t507 _ A11.out).mono ?_); rintro e w12 ⟨v508, rfl, ho0, hb⟩; refine ⟨_, rfl, ?_⟩; have HO509 := zA (Kd.R_lower ho0 (below_size (by exact zB HB))); replace HB := zA (below_step (by exact zB HB) hb); (try clear hb ho0)))
  go_ret
  exact ⟨_, by first | rfl | (simp [errW_none, errW_some] <;> rfl) | (simp [*, errW_none, errW_some] <;> rfl), by exact zR HO509, by exact zB HB⟩
/-! ### codewrightref02_Of: function 63 -/
def codewrightref02_Of.f (k : Nat) (a0 : Int) (a1 : Int) : Option (Bool × List Int × List Int) := (codewrightref02_abs.f k a0).bind fun t511 => ((codewrightref02_abs.f k a1).bind fun t514 => ((codewrightref02_Make.f k ((decide (a0 < 0)) != (decide (a1 < 0))) t511 t514).bind fun bt517 => (some (bt517.1, bt517.2.1, bt517.2.2))))
set_option maxHeartbeats 8000000 in
set_option maxRecDepth 100000 in
theorem codewrightref02_Of.calls (k : Nat) (a0 : Int) (a1 : Int) (r1 : Bool) (r2 : List Int) (r3 : List Int) (w : World) (h : codewrightref02_Of.f k a0 a1 = some (r1, r2, r3)) :
  Calls Try.prog 63 #[.int .i64 a0, .int .i64 a1] w fun e w' => ∃ v1_ v2_ : Value, e = .returned (.agg #[.bool r1, v1_, v2_]) ∧ Kd.R (Kd.int .u32) 79 w' w.heap.size (fun k_ => some k_ ≠ (v2_ : Value).ownBlock) v1_ r2 ∧ Kd.R (Kd.int .u32) 79 w' w.heap.size (fun k_ => some k_ ≠ (v1_ : Value).ownBlock) v2_ r3 ∧ Below w.heap.size w w' := by
 have hu52 := Try.underlying52
 have HB := zA (Below.refl w.heap.size w)
 have H : ((codewrightref02_abs.f k a0).bind fun t511 => ((codewrightref02_abs.f k a1).bind fun t514 => ((codewrightref02_Make.f k ((decide (a0 < 0)) != (decide (a1 < 0))) t511 t514).bind fun bt517 => (some (bt517.1, bt517.2.1, bt517.2.2))))) = some (r1, r2, r3) := h
 clear h
 replace H := Option.bind_eq_some_iff.mp H
 obtain ⟨t511, A30, H⟩ := H
 replace H : ((codewrightref02_abs.f k a1).bind fun t514 => ((codewrightref02_Make.f k ((decide (a0 < 0)) != (decide (a1 < 0))) t511 t514).bind fun bt517 => (some (bt517.1, bt517.2.1, bt517.2.2)))) = some (r1, r2, r3) := H
 have A3 := zA A30
 clear A30
 replace H := Option.bind_eq_some_iff.mp H
 obtain ⟨t514, A40, H⟩ := H
 replace H : ((codewrightref02_Make.f k ((decide (a0 < 0)) != (decide (a1 < 0))) t511 t514).bind fun bt517 => (some (bt517.1, bt517.2.1, bt517.2.2))) = some (r1, r2, r3) := H
 have A4 := zA A40
 clear A40
 replace H := Option.bind_eq_some_iff.mp H
 obtain ⟨⟨t517, t518, t521⟩, A50, H⟩ := H
 replace H : (some (t517, t518, t521)) = some (r1, r2, r3) := H
 have A5 := zA A50
 clear A50
 simp only [Option.some.injEq, Prod.mk.injEq] at H
 obtain ⟨rfl, rfl, rfl⟩ := H
 go_enter Try.func63, Try.ntmps63
 go_wp2_with (first | ((with_reducible refine gate_dst (N := 4) rfl ?_); refine box_event ?hg (N := 4) ?hd (cs := #[.bool false, .slice none 0 0, .slice none 0 0]) (t := 52) ?hr ?_; (case hd => rfl); (case hg => rfl); (case hr => first | (go_simp; done) | (go_simp; rfl)); intro gb510 hg w6 hbox hb; have BK510 := zA (hbox); have GW510 := zA ((by rw [hg]; exact (below_size (by exact zB HB)) : w.heap.size ≤ gb510)); have GE510 := zA ((by rw [hg]; exact (below_size (by exact zB HB)) : w.heap.size ≤ gb510)); replace HB := zA (below_step (by exact zB HB) hb); clear hb hbox hg) | ((with_reducible refine gate_callee (f := 101) rfl ?_); refine goesL_ (some 11) rfl rfl Try.func101 (by kernel_rfl) rfl #[.int .i64 a0] rfl (by (try simp only [List.map_toArray, List.map_cons, List.map_nil]); first | done | rfl | (simp only [List.length_drop, List.length_take]; rfl)) ?_; (with_reducible refine (codewrightref02_abs.calls k a0 t511 _ A3.out).mono ?_); rintro e w7 ⟨v512, rfl, ho0, hb⟩; refine ⟨_, rfl, ?_⟩; have HO513 := zA (Kd.R_lower ho0 (below_size (by repeat (first | (with_reducible first | exact HB.out | apply below_alloc | apply pw_below_drewN | apply below_drew1 | refine below_set ?_ GE510.out) | exact HB.out)))); replace BK510 := zA (blk_below (g := gb510) (o := .cells #[.bool false, .slice none 0 0, .slice none 0 0] 52 (0, 0)) (by exact zK BK510) hb); replace HB := zA (below_step (by repeat (first | (with_reducible first | exact HB.out | apply below_alloc | apply pw_below_drewN | apply below_drew1 | refine below_set ?_ GE510.out) | exact HB.out)) hb); (try clear hb ho0)) | ((with_reducible refine gate_callee (f := 101) rfl ?_); refine goesL_ (some 13) rfl rfl Try.func101 (by kernel_rfl) rfl #[.int .i64 a1] rfl (by (try simp only [List.map_toArray, List.map_cons, List.map_nil]); first | done | rfl | (simp only [List.length_drop, List.length_take]; rfl)) ?_; (with_reducible refine (codewrightref02_abs.calls k a1 t514 _ A4.out).mono ?_); rintro e w8 ⟨v515, rfl, ho0, hb⟩; refine ⟨_, rfl, ?_⟩; have HO516 := zA (Kd.R_lower (Kd.R_new' ho0 (Kd.R_lt (by exact zR HO513))) (below_size (by repeat (first | (with_reducible first | exact HB.out | apply below_alloc | apply pw_below_drewN | apply below_drew1 | refine below_set ?_ GE510.out) | exact HB.out)))); replace HO513 := zA (Kd.R_elder' (by exact zR HO513) (Kd.R_base ho0) hb); replace BK510 := zA (blk_below (g := gb510) (o := .cells #[.bool false, .slice none 0 0, .slice none 0 0] 52 (0, 0)) (by exact zK BK510) hb); replace HB := zA (below_step (by repeat (first | (with_reducible first | exact HB.out | apply below_alloc | apply pw_below_drewN | apply below_drew1 | refine below_set ?_ GE510.out) | exact HB.out)) hb); (try clear hb ho0); obtain ⟨Ao9, co9, eo9⟩ := Kd.R_slice HO513.out; subst eo9; obtain ⟨Ao10, co10, eo10⟩ := Kd.R_slice HO516.out; subst eo10) | ((with_reducible refine gate_callee (f := 84) rfl ?_); refine goesL_ (some 14) rfl rfl Try.func84 (by kernel_rfl) rfl #[.bool ((decide (a0 < 0)) != (decide (a1 < 0))), .slice Ao9 t511.length co9, .slice Ao10 t514.length co10] rfl (by (try simp only [List.map_toArray, List.map_cons, List.map_nil]); first | done | rfl | (simp only [List.length_drop, List.length_take]; rfl)) ?_; (with_reducible refine (codewrightref02_Make.calls k ((decide (a0 < 0)) != (decide (a1 < 0))) _ _ t511 _ _ t514 t517 t518 t521 _ ?side1 ?side2 ?side3 ?side4 A5.out).mono ?_); (case side1 => exact zC ((Kd.R_reads' HO513.out).2.2)); (case side2 => exact (Kd.R_reads' HO513.out).2.1); (case side3 => exact zC ((Kd.R_reads' HO516.out).2.2)); (case side4 => exact (Kd.R_reads' HO516.out).2.1); rintro e w11 ⟨v519, v522, rfl, ho0, ho1, hb⟩; refine ⟨_, rfl, ?_⟩; have HO520 := zA (Kd.R_lower (Kd.R_new' (Kd.R_new' ho0 (Kd.R_lt (by exact zR HO513))) (Kd.R_lt (by exact zR HO516))) (below_size (by repeat (first | (with_reducible first | exact HB.out | apply below_alloc | apply pw_below_drewN | apply below_drew1 | refine below_set ?_ GE510.out) | exact HB.out)))); have HO523 := zA (Kd.R_lower (Kd.R_new' (Kd.R_new' ho1 (Kd.R_lt (by exact zR HO513))) (Kd.R_lt (by exact zR HO516))) (below_size (by repeat (first | (with_reducible first | exact HB.out | apply below_alloc | apply pw_below_drewN | apply below_drew1 | refine below_set ?_ GE510.out) | exact HB.out)))); replace HO513 := zA (Kd.R_mono (Kd.R_told (Kd.R_told (Kd.R_old (by exact zR HO513) hb) (Kd.R_base ho0)) (Kd.R_base ho1)) (fun _ h_ => h_.1)); replace HO516 := zA (Kd.R_mono (Kd.R_told (Kd.R_told (Kd.R_old (by exact zR HO516) hb) (Kd.R_base ho0)) (Kd.R_base ho1)) (fun _ h_ => h_.1)); replace BK510 := zA (blk_below (g := gb510) (o := .cells #[.bool false, .slice none 0 0, .slice none 0 0] 52 (0, 0)) (by exact zK BK510) hb); replace HB := zA (below_step (by repeat (first | (with_reducible first | exact HB.out | apply below_alloc | apply pw_below_drewN | apply below_drew1 | refine below_set ?_ GE510.out) | exact HB.out)) hb); (try clear hb ho0 ho1); have hcz12_0 : w11.cell? ⟨gb510, 0, none⟩ = some (.bool false) := (blk_cell BK510.out 0).trans rfl; have hcz12_1 : w11.cell? ⟨gb510, 1, none⟩ = some (.slice none 0 0) := (blk_cell BK510.out 1).trans rfl; have hcz12_2 : w11.cell? ⟨gb510, 2, none⟩ = some (.slice none 0 0) := (blk_cell BK510.out 2).trans rfl; have hfz12_0 := blk_frozen BK510.out 0; have hfz12_1 := blk_frozen BK510.out 1; have hfz12_2 := blk_frozen BK510.out 2; obtain ⟨Ao13, co13, eo13⟩ := Kd.R_slice HO520.out; subst eo13; obtain ⟨Ao14, co14, eo14⟩ := Kd.R_slice HO523.out; subst eo14))
 refine bodyPost_ret (results_cell_row rfl _ _ gb510 52 #[.bool t517, .slice Ao13 t518.length co13, .slice Ao14 t521.length co14] (0, 0) _ rfl (by (with_reducible repeat (first | refine blk_drewN ?_ _ | refine blk_drew ?_ | refine blk_alloc ?_ _)); refine blk_put (cs := #[.bool t517, .slice Ao13 t518.length co13, .slice none 0 0]) ?_ 2 _ rfl; (with_reducible repeat (first | refine blk_drewN ?_ _ | refine blk_drew ?_ | refine blk_alloc ?_ _)); refine blk_put (cs := #[.bool t517, .slice none 0 0, .slice none 0 0]) ?_ 1 _ rfl; (with_reducible repeat (first | refine blk_drewN ?_ _ | refine blk_drew ?_ | refine blk_alloc ?_ _)); refine blk_put (cs := #[.bool false, .slice none 0 0, .slice none 0 0]) ?_ 0 _ rfl; exact zK BK510) Try.underlying52 rfl (by kernel_rfl)) rfl ?_
 exact ⟨_, _, by first | rfl | (simp [errW_none, errW_some] <;> rfl) | (simp [*, errW_none, errW_some] <;> rfl), by (with_reducible repeat (first | apply Kd.R_alloc | apply Kd.R_drewN | apply Kd.R_drew)); exact Kd.R_mono (Kd.R_far (p := ⟨gb510, 2, none⟩) (Kd.R_far (p := ⟨gb510, 1, none⟩) (Kd.R_far (p := ⟨gb510, 0, none⟩) (Kd.R_types HO520.out BK510.out (by decide)) (fun _ hk => hk.2) (.bool t517)) (fun _ hk => hk.2) (.slice Ao13 t518.length co13)) (fun _ hk => hk.2) (.slice Ao14 t521.length co14)) (fun _ hk => hk.1.1.1), by (with_reducible repeat (first | apply Kd.R_alloc | apply Kd.R_drewN | apply Kd.R_drew)); exact Kd.R_mono (Kd.R_far (p := ⟨gb510, 2, none⟩) (Kd.R_far (p := ⟨gb510, 1, none⟩) (Kd.R_far (p := ⟨gb510, 0, none⟩) (Kd.R_types HO523.out BK510.out (by decide)) (fun _ hk => hk.2) (.bool t517)) (fun _ hk => hk.2) (.slice Ao13 t518.length co13)) (fun _ hk => hk.2) (.slice Ao14 t521.length co14)) (fun _ hk => hk.1.1.1), by repeat (first | (with_reducible first | exact HB.out | apply below_alloc | apply pw_below_drewN | apply below_drew1 | refine below_set ?_ GE510.out) | exact HB.out)⟩
/-! ### codewrightref02_Int: function 42 -/
def codewrightref02_Int.f (k : Nat) (a0 : Int) : Option (Bool × List Int × List Int) := (codewrightref02_Of.f k a0 1).bind fun bt525 => (some (bt525.1, bt525.2.1, bt525.2.2))
set_option maxHeartbeats 8000000 in
set_option maxRecDepth 100000 in
theorem codewrightref02_Int.calls (k : Nat) (a0 : Int) (r1 : Bool) (r2 : List Int) (r3 : List Int) (w : World) (h : codewrightref02_Int.f k a0 = some (r1, r2, r3)) :
  Calls Try.prog 42 #[.int .i64 a0] w fun e w' => ∃ v1_ v2_ : Value, e = .returned (.agg #[.bool r1, v1_, v2_]) ∧ Kd.R (Kd.int .u32) 79 w' w.heap.size (fun k_ => some k_ ≠ (v2_ : Value).ownBlock) v1_ r2 ∧ Kd.R (Kd.int .u32) 79 w' w.heap.size (fun k_ => some k_ ≠ (v1_ : Value).ownBlock) v2_ r3 ∧ Below w.heap.size w w' := by
 have hu52 := Try.underlying52
 have HB := zA (Below.refl w.heap.size w)
 have H : ((codewrightref02_Of.f k a0 1).bind fun bt525 => (some (bt525.1, bt525.2.1, bt525.2.2))) = some (r1, r2, r3) := h
 clear h
 replace H := Option.bind_eq_some_iff.mp H
 obtain ⟨⟨t525, t526, t529⟩, A20, H⟩ := H
 replace H : (some (t525, t526, t529)) = some (r1, r2, r3) := H
 have A2 := zA A20
 clear A20
 simp only [Option.some.injEq, Prod.mk.injEq] at H
 obtain ⟨rfl, rfl, rfl⟩ := H
 go_enter Try.func42, Try.ntmps42
 go_wp2_with (first | ((with_reducible refine gate_dst (N := 2) rfl ?_); refine box_event ?hg (N := 2) ?hd (cs := #[.bool false, .slice none 0 0, .slice none 0 0]) (t := 52) ?hr ?_; (case hd => rfl); (case hg => rfl); (case hr => first | (go_simp; done) | (go_simp; rfl)); intro gb524 hg w3 hbox hb; have BK524 := zA (hbox); have GW524 := zA ((by rw [hg]; exact (below_size (by exact zB HB)) : w.heap.size ≤ gb524)); have GE524 := zA ((by rw [hg]; exact (below_size (by exact zB HB)) : w.heap.size ≤ gb524)); replace HB := zA (below_step (by exact zB HB) hb); clear hb hbox hg) | ((with_reducible refine gate_callee (f := 63) rfl ?_); refine goesL_ (some 4) rfl rfl Try.func63 (by kernel_rfl) rfl #[.int .i64 a0, .int .i64 1] rfl (by (try simp only [List.map_toArray, List.map_cons, List.map_nil]); first | done | rfl | (simp only [List.length_drop, List.length_take]; rfl)) ?_; (with_reducible refine (codewrightref02_Of.calls k a0 1 t525 t526 t529 _ A2.out).mono ?_); rintro e w4 ⟨v527, v530, rfl, ho0, ho1, hb⟩; refine ⟨_, rfl, ?_⟩; have HO528 := zA (Kd.R_lower ho0 (below_size (by repeat (first | (with_reducible first | exact HB.out | apply below_alloc | apply pw_below_drewN | apply below_drew1 | refine below_set ?_ GE524.out) | exact HB.out)))); have HO531 := zA (Kd.R_lower ho1 (below_size (by repeat (first | (with_reducible first | exact HB.out | apply below_alloc | apply pw_below_drewN | apply below_drew1 | refine below_set ?_ GE524.out) | exact HB.out)))); replace BK524 := zA (blk_below (g := gb524) (o := .cells #[.bool false, .slice none 0 0, .slice none 0 0] 52 (0, 0)) (by exact zK BK524) hb); replace HB := zA (below_step (by repeat (first | (with_reducible first | exact HB.out | apply below_alloc | apply pw_below_drewN | apply below_drew1 | refine below_set ?_ GE524.out) | exact HB.out)) hb); (try clear hb ho0 ho1); have hcz5_0 : w4.cell? ⟨gb524, 0, none⟩ = some (.bool false) := (blk_cell BK524.out 0).trans rfl; have hcz5_1 : w4.cell? ⟨gb524, 1, none⟩ = some (.slice none 0 0) := (blk_cell BK524.out 1).trans rfl; have hcz5_2 : w4.cell? ⟨gb524, 2, none⟩ = some (.slice none 0 0) := (blk_cell BK524.out 2).trans rfl; have hfz5_0 := blk_frozen BK524.out 0; have hfz5_1 := blk_frozen BK524.out 1; have hfz5_2 := blk_frozen BK524.out 2; obtain ⟨Ao6, co6, eo6⟩ := Kd.R_slice HO528.out; subst eo6; obtain ⟨Ao7, co7, eo7⟩ := Kd.R_slice HO531.out; subst eo7))
 refine bodyPost_ret (results_cell_row rfl _ _ gb524 52 #[.bool t525, .slice Ao6 t526.length co6, .slice Ao7 t529.length co7] (0, 0) _ rfl (by (with_reducible repeat (first | refine blk_drewN ?_ _ | refine blk_drew ?_ | refine blk_alloc ?_ _)); refine blk_put (cs := #[.bool t525, .slice Ao6 t526.length co6, .slice none 0 0]) ?_ 2 _ rfl; (with_reducible repeat (first | refine blk_drewN ?_ _ | refine blk_drew ?_ | refine blk_alloc ?_ _)); refine blk_put (cs := #[.bool t525, .slice none 0 0, .slice none 0 0]) ?_ 1 _ rfl; (with_reducible repeat (first | refine blk_drewN ?_ _ | refine blk_drew ?_ | refine blk_alloc ?_ _)); refine blk_put (cs := #[.bool false, .slice none 0 0, .slice none 0 0]) ?_ 0 _ rfl; exact zK BK524) Try.underlying52 rfl (by kernel_rfl)) rfl ?_
 exact ⟨_, _, by first | rfl | (simp [errW_none, errW_some] <;> rfl) | (simp [*, errW_none, errW_some] <;> rfl), by (with_reducible repeat (first | apply Kd.R_alloc | apply Kd.R_drewN | apply Kd.R_drew)); exact Kd.R_mono (Kd.R_far (p := ⟨gb524, 2, none⟩) (Kd.R_far (p := ⟨gb524, 1, none⟩) (Kd.R_far (p := ⟨gb524, 0, none⟩) (Kd.R_types HO528.out BK524.out (by decide)) (fun _ hk => hk.2) (.bool t525)) (fun _ hk => hk.2) (.slice Ao6 t526.length co6)) (fun _ hk => hk.2) (.slice Ao7 t529.length co7)) (fun _ hk => hk.1), by (with_reducible repeat (first | apply Kd.R_alloc | apply Kd.R_drewN | apply Kd.R_drew)); exact Kd.R_mono (Kd.R_far (p := ⟨gb524, 2, none⟩) (Kd.R_far (p := ⟨gb524, 1, none⟩) (Kd.R_far (p := ⟨gb524, 0, none⟩) (Kd.R_types HO531.out BK524.out (by decide)) (fun _ hk => hk.2) (.bool t525)) (fun _ hk => hk.2) (.slice Ao6 t526.length co6)) (fun _ hk => hk.2) (.slice Ao7 t529.length co7)) (fun _ hk => hk.1), by repeat (first | (with_reducible first | exact HB.out | apply below_alloc | apply pw_below_drewN | apply below_drew1 | refine below_set ?_ GE524.out) | exact HB.out)⟩
end Go.Proofs.Ytjignpnnmfdedaa.PChannelPatterns
