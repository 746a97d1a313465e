/- A part of the print of this row, cut down to what the row uses. -/
import Derived.Test.YtjignpnnmfdedaaQChannelPatternsx0
import Derived.Test.YtjignpnnmfdedaaQChannelPatternsx6
import Derived.Test.YtjignpnnmfdedaaQChannelPatternsWSq
-- printed by a scratch copy of the print, turned (wip/tools/turn_print.py)
namespace Go.Proofs.Ytjignpnnmfdedaa.PChannelPatterns
open Go.RowKit Go.Proofs.YtjignpnnmfdedaaW.PrintWords Go.Proofs.YtjignpnnmfdedaaW.PrintLast Go.Proofs.YtjignpnnmfdedaaW.PrintMore
attribute [local go_sem] max2_int min2_int max_two min_two max_three min_three max_four min_four   -- for this text's walks alone
set_option linter.unusedVariables false
set_option linter.unusedSimpArgs false
/-! ### codewrightref02_Same: function 37 -/
def codewrightref02_Same.f (k : Nat) (a0_0 : Bool) (l0_1 : List Int) (l0_2 : List Int) (a1_0 : Bool) (l1_1 : List Int) (l1_2 : List Int) : Option (Bool) := if (a0_0 == a1_0) = true then ((codewrightref01_Same.f k l0_1 l1_1).bind fun t372 => (if t372 = true then ((codewrightref01_Same.f k l0_2 l1_2).bind fun t373 => (some t373)) else (some false))) else (some false)
set_option maxHeartbeats 8000000 in
set_option maxRecDepth 100000 in
theorem codewrightref02_Same.calls (k : Nat) (a0_0 : Bool) (A0_1 : Option Addr) (c0_1 : Nat) (l0_1 : List Int) (A0_2 : Option Addr) (c0_2 : Nat) (l0_2 : List Int) (a1_0 : Bool) (A1_1 : Option Addr) (c1_1 : Nat) (l1_1 : List Int) (A1_2 : Option Addr) (c1_2 : Nat) (l1_2 : List Int) (r : Bool) (w : World) (hr0_1 : Kd.C (Kd.int .u32) w A0_1 l0_1.length l0_1) (hc0_1 : l0_1.length ≤ c0_1) (hr0_2 : Kd.C (Kd.int .u32) w A0_2 l0_2.length l0_2) (hc0_2 : l0_2.length ≤ c0_2) (hr1_1 : Kd.C (Kd.int .u32) w A1_1 l1_1.length l1_1) (hc1_1 : l1_1.length ≤ c1_1) (hr1_2 : Kd.C (Kd.int .u32) w A1_2 l1_2.length l1_2) (hc1_2 : l1_2.length ≤ c1_2) (h : codewrightref02_Same.f k a0_0 l0_1 l0_2 a1_0 l1_1 l1_2 = some r) :
  Calls Try.prog 37 #[.agg #[.bool a0_0, .slice A0_1 l0_1.length c0_1, .slice A0_2 l0_2.length c0_2], .agg #[.bool a1_0, .slice A1_1 l1_1.length c1_1, .slice A1_2 l1_2.length c1_2]] w fun e w' => e = .returned (.bool r) ∧ Below w.heap.size w w' := by
 have hu52 := Try.underlying52
 have HR0_1 := zA hr0_1
 have HC0_1 := zA hc0_1
 clear hr0_1 hc0_1
 have HR0_2 := zA hr0_2
 have HC0_2 := zA hc0_2
 clear hr0_2 hc0_2
 have HR1_1 := zA hr1_1
 have HC1_1 := zA hc1_1
 clear hr1_1 hc1_1
 have HR1_2 := zA hr1_2
 have HC1_2 := zA hc1_2
 clear hr1_2 hc1_2
 have HB := zA (Below.refl w.heap.size w)
 have H : (if (a0_0 == a1_0) = true then ((codewrightref01_Same.f k l0_1 l1_1).bind fun t372 => (if t372 = true then ((codewrightref01_Same.f k l0_2 l1_2).bind fun t373 => (some t373)) else (some false))) else (some false)) = some r := h
 clear h
 by_cases c3 : (a0_0 == a1_0) = true
 ·
  rw [if_pos c3] at H
  have c3b0 : (a0_0 == a1_0) = true := c3
  (try (have c3b1 : decide (a0_0 = a1_0) = true := by simpa using c3))
  (try (have c3b2 : (a0_0 == a1_0) = true := by simpa using c3))
  clear c3
  replace H := Option.bind_eq_some_iff.mp H
  obtain ⟨t372, A40, H⟩ := H
  replace H : (if t372 = true then ((codewrightref01_Same.f k l0_2 l1_2).bind fun t373 => (some t373)) else (some false)) = some r := H
  have A4 := zA A40
  clear A40
  by_cases c5 : t372 = true
  ·
   subst c5
   have H1 : ((codewrightref01_Same.f k l0_2 l1_2).bind fun t373 => (some t373)) = some r := by rw [if_pos rfl] at H; exact H
   clear H
   have H := H1
   clear H1
   replace H := Option.bind_eq_some_iff.mp H
   obtain ⟨t373, A60, H⟩ := H
   replace H : (some t373) = some r := H
   have A6 := zA A60
   clear A60
   obtain rfl := Option.some.inj H
   go_enter Try.func37, Try.ntmps37
   go_wp2_with (first | ((with_reducible refine gate_dst (N := 2) rfl ?_); refine box_event ?hg (N := 2) ?hd (cs := #[.bool a0_0, .slice A0_1 l0_1.length c0_1, .slice A0_2 l0_2.length c0_2]) (t := 52) ?hr ?_; (case hd => rfl); (case hg => rfl); (case hr => first | (go_simp; done) | (go_simp; rfl)); intro gb370 hg w7 hbox hb; have BK370 := zA (hbox); have GW370 := zA ((by rw [hg]; exact (below_size (by exact zB HB)) : w.heap.size ≤ gb370)); have GE370 := zA ((by rw [hg]; exact (below_size (by exact zB HB)) : w.heap.size ≤ gb370)); replace HB := zA (below_step (by exact zB HB) hb); clear hb hbox hg) | ((with_reducible refine gate_dst (N := 3) rfl ?_); refine box_event ?hg (N := 3) ?hd (cs := #[.bool a1_0, .slice A1_1 l1_1.length c1_1, .slice A1_2 l1_2.length c1_2]) (t := 52) ?hr ?_; (case hd => rfl); (case hg => rfl); (case hr => first | (go_simp; done) | (go_simp; rfl)); intro gb371 hg w8 hbox hb; have BK371 := zA (hbox); have GW371 := zA ((by rw [hg]; exact (below_size (by repeat (first | (with_reducible first | exact HB.out | apply below_alloc | apply pw_below_drewN | apply below_drew1 | refine below_set ?_ GE370.out) | exact HB.out))) : w.heap.size ≤ gb371)); have GE371 := zA ((by rw [hg]; exact (below_size (by repeat (first | (with_reducible first | exact HB.out | apply below_alloc | apply pw_below_drewN | apply below_drew1 | refine below_set ?_ GE370.out) | exact HB.out))) : w.heap.size ≤ gb371)); replace HB := zA (below_step (by repeat (first | (with_reducible first | exact HB.out | apply below_alloc | apply pw_below_drewN | apply below_drew1 | refine below_set ?_ GE370.out) | exact HB.out)) hb); have NB370_371 := zA ((by rw [hg]; exact Nat.ne_of_lt (blk_lt (g := gb370) (o := .cells #[.bool a0_0, .slice A0_1 l0_1.length c0_1, .slice A0_2 l0_2.length c0_2] 52 (0, 0)) (by exact zK BK370)) : gb370 ≠ gb371)); have NB371_370 := zA ((by rw [hg]; exact Nat.ne_of_gt (blk_lt (g := gb370) (o := .cells #[.bool a0_0, .slice A0_1 l0_1.length c0_1, .slice A0_2 l0_2.length c0_2] 52 (0, 0)) (by exact zK BK370)) : gb371 ≠ gb370)); replace BK370 := zA (blk_below (g := gb370) (o := .cells #[.bool a0_0, .slice A0_1 l0_1.length c0_1, .slice A0_2 l0_2.length c0_2] 52 (0, 0)) (by exact zK BK370) hb); clear hb hbox hg; have hnb9 := NB370_371.out; have hnc9 := NB371_370.out; have hcz10_0 : w8.cell? ⟨gb370, 0, none⟩ = some (.bool a0_0) := (blk_cell BK370.out 0).trans rfl; have hcz10_1 : w8.cell? ⟨gb370, 1, none⟩ = some (.slice A0_1 l0_1.length c0_1) := (blk_cell BK370.out 1).trans rfl; have hcz10_2 : w8.cell? ⟨gb370, 2, none⟩ = some (.slice A0_2 l0_2.length c0_2) := (blk_cell BK370.out 2).trans rfl; have hfz10_0 := blk_frozen BK370.out 0; have hfz10_1 := blk_frozen BK370.out 1; have hfz10_2 := blk_frozen BK370.out 2; have hcz11_0 : w8.cell? ⟨gb371, 0, none⟩ = some (.bool a1_0) := (blk_cell BK371.out 0).trans rfl; have hcz11_1 : w8.cell? ⟨gb371, 1, none⟩ = some (.slice A1_1 l1_1.length c1_1) := (blk_cell BK371.out 1).trans rfl; have hcz11_2 : w8.cell? ⟨gb371, 2, none⟩ = some (.slice A1_2 l1_2.length c1_2) := (blk_cell BK371.out 2).trans rfl; have hfz11_0 := blk_frozen BK371.out 0; have hfz11_1 := blk_frozen BK371.out 1; have hfz11_2 := blk_frozen BK371.out 2) | (go_at_call 17; (with_reducible refine (codewrightref01_Same.calls k _ _ l0_1 _ _ l1_1 true _ ?side1 ?side2 ?side3 ?side4 A4.out).mono ?_); (case side1 => exact zC ((Kd.C_below HR0_1.out HB.out))); (case side2 => exact HC0_1.out); (case side3 => exact zC ((Kd.C_below HR1_1.out HB.out))); (case side4 => exact HC1_1.out); rintro e w' ⟨rfl, ⟨nd, rfl⟩⟩) | (go_at_call 17; (with_reducible refine (codewrightref01_Same.calls k _ _ l0_2 _ _ l1_2 t373 _ ?side1 ?side2 ?side3 ?side4 A6.out).mono ?_); (case side1 => repeat (first | exact (Kd.C_below HR0_2.out (by repeat (first | (with_reducible first | exact HB.out | apply below_alloc | apply pw_below_drewN | apply below_drew1 | refine below_set ?_ GE370.out | refine below_set ?_ GE371.out) | exact HB.out))) | (with_reducible refine Kd.C_alloc ?_ _) | (with_reducible refine Kd.C_drewN ?_ _) | (with_reducible refine Kd.C_drew ?_))); (case side2 => exact HC0_2.out); (case side3 => repeat (first | exact (Kd.C_below HR1_2.out (by repeat (first | (with_reducible first | exact HB.out | apply below_alloc | apply pw_below_drewN | apply below_drew1 | refine below_set ?_ GE370.out | refine below_set ?_ GE371.out) | exact HB.out))) | (with_reducible refine Kd.C_alloc ?_ _) | (with_reducible refine Kd.C_drewN ?_ _) | (with_reducible refine Kd.C_drew ?_))); (case side4 => exact HC1_2.out); rintro e w' ⟨rfl, ⟨nd, rfl⟩⟩))
   go_ret
   exact ⟨by first | rfl | (simp [errW_none, errW_some] <;> rfl) | (simp [*, errW_none, errW_some] <;> rfl), by repeat (first | (with_reducible first | exact HB.out | apply below_alloc | apply pw_below_drewN | apply below_drew1 | refine below_set ?_ GE370.out | refine below_set ?_ GE371.out) | exact HB.out)⟩
  ·
   replace c5 := Bool.eq_false_iff.mpr c5
   subst c5
   have H1 : (some false) = some r := by rw [if_neg (show ¬ (false = true) by decide)] at H; exact H
   clear H
   have H := H1
   clear H1
   obtain rfl := Option.some.inj H
   go_enter Try.func37, Try.ntmps37
   go_wp2_with (first | ((with_reducible refine gate_dst (N := 2) rfl ?_); refine box_event ?hg (N := 2) ?hd (cs := #[.bool a0_0, .slice A0_1 l0_1.length c0_1, .slice A0_2 l0_2.length c0_2]) (t := 52) ?hr ?_; (case hd => rfl); (case hg => rfl); (case hr => first | (go_simp; done) | (go_simp; rfl)); intro gb370 hg w12 hbox hb; have BK370 := zA (hbox); have GW370 := zA ((by rw [hg]; exact (below_size (by exact zB HB)) : w.heap.size ≤ gb370)); have GE370 := zA ((by rw [hg]; exact (below_size (by exact zB HB)) : w.heap.size ≤ gb370)); replace HB := zA (below_step (by exact zB HB) hb); clear hb hbox hg) | ((with_reducible refine gate_dst (N := 3) rfl ?_); refine box_event ?hg (N := 3) ?hd (cs := #[.bool a1_0, .slice A1_1 l1_1.length c1_1, .slice A1_2 l1_2.length c1_2]) (t := 52) ?hr ?_; (case hd => rfl); (case hg => rfl); (case hr => first | (go_simp; done) | (go_simp; rfl)); intro gb371 hg w13 hbox hb; have BK371 := zA (hbox); have GW371 := zA ((by rw [hg]; exact (below_size (by repeat (first | (with_reducible first | exact HB.out | apply below_alloc | apply pw_below_drewN | apply below_drew1 | refine below_set ?_ GE370.out) | exact HB.out))) : w.heap.size ≤ gb371)); have GE371 := zA ((by rw [hg]; exact (below_size (by repeat (first | (with_reducible first | exact HB.out | apply below_alloc | apply pw_below_drewN | apply below_drew1 | refine below_set ?_ GE370.out) | exact HB.out))) : w.heap.size ≤ gb371)); replace HB := zA (below_step (by repeat (first | (with_reducible first | exact HB.out | apply below_alloc | apply pw_below_drewN | apply below_drew1 | refine below_set ?_ GE370.out) | exact HB.out)) hb); have NB370_371 := zA ((by rw [hg]; exact Nat.ne_of_lt (blk_lt (g := gb370) (o := .cells #[.bool a0_0, .slice A0_1 l0_1.length c0_1, .slice A0_2 l0_2.length c0_2] 52 (0, 0)) (by exact zK BK370)) : gb370 ≠ gb371)); have NB371_370 := zA ((by rw [hg]; exact Nat.ne_of_gt (blk_lt (g := gb370) (o := .cells #[.bool a0_0, .slice A0_1 l0_1.length c0_1, .slice A0_2 l0_2.length c0_2] 52 (0, 0)) (by exact zK BK370)) : gb371 ≠ gb370)); replace BK370 := zA (blk_below (g := gb370) (o := .cells #[.bool a0_0, .slice A0_1 l0_1.length c0_1, .slice A0_2 l0_2.length c0_2] 52 (0, 0)) (by exact zK BK370) hb); clear hb hbox hg; have hnb14 := NB370_371.out; have hnc14 := NB371_370.out; have hcz15_0 : w13.cell? ⟨gb370, 0, none⟩ = some (.bool a0_0) := (blk_cell BK370.out 0).trans rfl; have hcz15_1 : w13.cell? ⟨gb370, 1, none⟩ = some (.slice A0_1 l0_1.length c0_1) := (blk_cell BK370.out 1).trans rfl; have hcz15_2 : w13.cell? ⟨gb370, 2, none⟩ = some (.slice A0_2 l0_2.length c0_2) := (blk_cell BK370.out 2).trans rfl; have hfz15_0 := blk_frozen BK370.out 0; have hfz15_1 := blk_frozen BK370.out 1; have hfz15_2 := blk_frozen BK370.out 2; have hcz16_0 : w13.cell? ⟨gb371, 0, none⟩ = some (.bool a1_0) := (blk_cell BK371.out 0).trans rfl; have hcz16_1 : w13.cell? ⟨gb371, 1, none⟩ = some (.slice A1_1 l1_1.length c1_1) := (blk_cell BK371.out 1).trans rfl; have hcz16_2 : w13.cell? ⟨gb371, 2, none⟩ = some (.slice A1_2 l1_2.length c1_2) := (blk_cell BK371.out 2).trans rfl; have hfz16_0 := blk_frozen BK371.out 0; have hfz16_1 := blk_frozen BK371.out 1; have hfz16_2 := blk_frozen BK371.out 2) | (go_at_call 17; (with_reducible refine (codewrightref01_Same.calls k _ _ l0_1 _ _ l1_1 false _ ?side1 ?side2 ?side3 ?side4 A4.out).mono ?_); (case side1 => exact zC ((Kd.C_below HR0_1.out HB.out))); (case side2 => exact HC0_1.out); (case side3 => exact zC ((Kd.C_below HR1_1.out HB.out))); (case side4 => exact HC1_1.out); rintro e w' ⟨rfl, ⟨nd, rfl⟩⟩))
   go_ret
   exact ⟨by first | rfl | (simp [errW_none, errW_some] <;> rfl) | (simp [*, errW_none, errW_some] <;> rfl), by repeat (first | (with_reducible first | exact HB.out | apply below_alloc | apply pw_below_drewN | apply below_drew1 | refine below_set ?_ GE370.out | refine below_set ?_ GE371.out) | exact HB.out)⟩
 ·
  rw [if_neg c3] at H
  have c3b0 : (a0_0 == a1_0) = false := by simpa using c3
  (try (have c3b1 : decide (a0_0 = a1_0) = false := by simpa using c3))
  (try (have c3b2 : (a0_0 == a1_0) = false := by simpa using c3))
  (try (have c3b3 : ¬ (a0_0 = a1_0) := by simpa using c3))
  clear c3
  obtain rfl := Option.some.inj H
  go_enter Try.func37, Try.ntmps37
  go_wp2_with (first | ((with_reducible refine gate_dst (N := 2) rfl ?_); refine box_event ?hg (N := 2) ?hd (cs := #[.bool a0_0, .slice A0_1 l0_1.length c0_1, .slice A0_2 l0_2.length c0_2]) (t := 52) ?hr ?_; (case hd => rfl); (case hg => rfl); (case hr => first | (go_simp; done) | (go_simp; rfl)); intro gb370 hg w17 hbox hb; have BK370 := zA (hbox); have GW370 := zA ((by rw [hg]; exact (below_size (by exact zB HB)) : w.heap.size ≤ gb370)); have GE370 := zA ((by rw [hg]; exact (below_size (by exact zB HB)) : w.heap.size ≤ gb370)); replace HB := zA (below_step (by exact zB HB) hb); clear hb hbox hg) | ((with_reducible refine gate_dst (N := 3) rfl ?_); refine box_event ?hg (N := 3) ?hd (cs := #[.bool a1_0, .slice A1_1 l1_1.length c1_1, .slice A1_2 l1_2.length c1_2]) (t := 52) ?hr ?_; (case hd => rfl); (case hg => rfl); (case hr => first | (go_simp; done) | (go_simp; rfl)); intro gb371 hg w18 hbox hb; have BK371 := zA (hbox); have GW371 := zA ((by rw [hg]; exact (below_size (by repeat (first | (with_reducible first | exact HB.out | apply below_alloc | apply pw_below_drewN | apply below_drew1 | refine below_set ?_ GE370.out) | exact HB.out))) : w.heap.size ≤ gb371)); have GE371 := zA ((by rw [hg]; exact (below_size (by repeat (first | (with_reducible first | exact HB.out | apply below_alloc | apply pw_below_drewN | apply below_drew1 | refine below_set ?_ GE370.out) | exact HB.out))) : w.heap.size ≤ gb371)); replace HB := zA (below_step (by repeat (first | (with_reducible first | exact HB.out | apply below_alloc | apply pw_below_drewN | apply below_drew1 | refine below_set ?_ GE370.out) | exact HB.out)) hb); have NB370_371 := zA ((by rw [hg]; exact Nat.ne_of_lt (blk_lt (g := gb370) (o := .cells #[.bool a0_0, .slice A0_1 l0_1.length c0_1, .slice A0_2 l0_2.length c0_2] 52 (0, 0)) (by exact zK BK370)) : gb370 ≠ gb371)); have NB371_370 := zA ((by rw [hg]; exact Nat.ne_of_gt (blk_lt (g := gb370) (o := .cells #[.bool a0_0, .slice A0_1 l0_1.length c0_1, .slice A0_2 l0_2.length c0_2] 52 (0, 0)) (by exact zK BK370)) : gb371 ≠ gb370)); replace BK370 := zA (blk_below (g := gb370) (o := .cells #[.bool a0_0, .slice A0_1 l0_1.length c0_1, .slice A0_2 l0_2.length c0_2] 52 (0, 0)) (by exact zK BK370) hb); clear hb hbox hg; have hnb19 := NB370_371.out; have hnc19 := NB371_370.out; have hcz20_0 : w18.cell? ⟨gb370, 0, none⟩ = some (.bool a0_0) := (blk_cell BK370.out 0).trans rfl; have hcz20_1 : w18.cell? ⟨gb370, 1, none⟩ = some (.slice A0_1 l0_1.length c0_1) := (blk_cell BK370.out 1).trans rfl; have hcz20_2 : w18.cell? ⟨gb370, 2, none⟩ = some (.slice A0_2 l0_2.length c0_2) := (blk_cell BK370.out 2).trans rfl; have hfz20_0 := blk_frozen BK370.out 0; have hfz20_1 := blk_frozen BK370.out 1; have hfz20_2 := blk_frozen BK370.out 2; have hcz21_0 : w18.cell? ⟨gb371, 0, none⟩ = some (.bool a1_0) := (blk_cell BK371.out 0).trans rfl; have hcz21_1 : w18.cell? ⟨gb371, 1, none⟩ = some (.slice A1_1 l1_1.length c1_1) := (blk_cell BK371.out 1).trans rfl; have hcz21_2 : w18.cell? ⟨gb371, 2, none⟩ = some (.slice A1_2 l1_2.length c1_2) := (blk_cell BK371.out 2).trans rfl; have hfz21_0 := blk_frozen BK371.out 0; have hfz21_1 := blk_frozen BK371.out 1; have hfz21_2 := blk_frozen BK371.out 2))
  go_ret
  exact ⟨by first | rfl | (simp [errW_none, errW_some] <;> rfl) | (simp [*, errW_none, errW_some] <;> rfl), by repeat (first | (with_reducible first | exact HB.out | apply below_alloc | apply pw_below_drewN | apply below_drew1 | refine below_set ?_ GE370.out | refine below_set ?_ GE371.out) | exact HB.out)⟩
/-! ### codewrightref02_SameList: function 61 -/
def codewrightref02_SameList.l0 : Nat → List (S52) → List (S52) → Int → Option (Bool)
 | 0, _, _, _ => none
 | k + 1, x0, x1, x5 => if x5 < (x0.length : Int) then (if 0 ≤ x5 then (if x5 < (x1.length : Int) then ((codewrightref02_Same.f k ((rd_T52 x0 x5).f0) ((rd_T52 x0 x5).f1) ((rd_T52 x0 x5).f2) ((rd_T52 x1 x5).f0) ((rd_T52 x1 x5).f1) ((rd_T52 x1 x5).f2)).bind fun t376 => (if t376 = true then (codewrightref02_SameList.l0 k x0 x1 (wrap64 (x5 + 1))) else (some false))) else (none)) else (none)) else (some true)
def codewrightref02_SameList.f (k : Nat) (l0 : List (S52)) (l1 : List (S52)) : Option (Bool) := if (l0.length : Int) = (l1.length : Int) then (codewrightref02_SameList.l0 k l0 l1 0) else (some false)
def codewrightref02_SameList.T6 : Bool × List (List Nat × List Nat) := (true, [([], []), ([], []), ([0, 1], [0, 1]), ([2], [2]), ([], []), ([], []), ([4, 5], [4, 5]), ([6], [6]), ([3, 7], [3, 7]), ([8], [8])])
def codewrightref02_SameList.B6 : List Nat := [0, 0, 3, 7, 0, 0, 48, 112, 255, 511]
theorem codewrightref02_SameList.tab6 : rtab .any (opsOf Try.f61 6) = codewrightref02_SameList.T6 := by kernel_rfl
theorem codewrightref02_SameList.bits6 : waitsOk codewrightref02_SameList.T6.2 codewrightref02_SameList.B6 = true := by kernel_rfl
set_option maxHeartbeats 8000000 in
set_option maxRecDepth 100000 in
theorem codewrightref02_SameList.calls (k : Nat) (A0 : Option Addr) (c0 : Nat) (l0 : List (S52)) (A1 : Option Addr) (c1 : Nat) (l1 : List (S52)) (r : Bool) (w : World) (hr0 : Kd.C k52 w A0 l0.length l0) (hc0 : l0.length ≤ c0) (hr1 : Kd.C k52 w A1 l1.length l1) (hc1 : l1.length ≤ c1) (h : codewrightref02_SameList.f k l0 l1 = some r) :
  Calls Try.prog 61 #[.slice A0 l0.length c0, .slice A1 l1.length c1] w fun e w' => e = .returned (.bool r) ∧ Below w.heap.size w w' := by
 have hu52 := Try.underlying52
 have HR0 := zA hr0
 have HC0 := zA hc0
 clear hr0 hc0
 have HR1 := zA hr1
 have HC1 := zA hc1
 clear hr1 hc1
 have HB := zA (Below.refl w.heap.size w)
 have H : (if (l0.length : Int) = (l1.length : Int) then (codewrightref02_SameList.l0 k l0 l1 0) else (some false)) = some r := h
 clear h
 by_cases c3 : (l0.length : Int) = (l1.length : Int)
 ·
  rw [if_pos c3] at H
  have c3b0 : ((l0.length : Int) == (l1.length : Int)) = true := beq_iff_eq.mpr c3
  have c3b1 : ((l0.length : Int) != (l1.length : Int)) = false := bne_eq_false_iff_eq.mpr c3
  have c3b2 : (l0.length == l1.length) = true := by first | simpa using c3 | (simp at c3 ⊢; omega)
  clear c3
  have H' := zA H
  clear H
  go_enter Try.func61, Try.ntmps61
  go_wp2
  go_loopg [5] k (fun kq v5 w' => ∃ (x5_1 : Int), v5 = .int .i64 x5_1 ∧ Aside0 (codewrightref02_SameList.l0 kq l0 l1 x5_1 = some r) ∧ Aside0 (kq ≤ k) ∧ Aside0 (Below w.heap.size w w'))
  case atStart => exact ⟨(0), (by first | rfl | (simp; done) | (simp [*]; done)), H', ⟨Nat.le_refl _⟩, ⟨by exact zB HB⟩⟩
  case round =>
   clear H'
   try clear c1
   try clear p2
   try clear c3
   try clear c3b0
   try clear c3b1
   try clear c3b2
   obtain ⟨x5_1, rfl, HA, HK1, HB⟩ := hrel
   cases gk with
   | zero => exact absurd HA.out (by simp [codewrightref02_SameList.l0])
   | succ k1 =>
    have H := HA.out
    clear HA
    simp only [codewrightref02_SameList.l0] at H
    by_cases c4 : x5_1 < (l0.length : Int)
    ·
     rw [if_pos c4] at H
     have c4b0 : decide (x5_1 < (l0.length : Int)) = true := decide_eq_true c4
     clear c4
     by_cases c5 : 0 ≤ x5_1
     ·
      rw [if_pos c5] at H
      have c5b0 : decide (0 ≤ x5_1) = true := decide_eq_true c5
      clear c5
      by_cases c6 : x5_1 < (l1.length : Int)
      ·
       rw [if_pos c6] at H
       have c6b0 : decide (x5_1 < (l1.length : Int)) = true := decide_eq_true c6
       clear c6
       replace H := Option.bind_eq_some_iff.mp H
       obtain ⟨t376, A70, H⟩ := H
       replace H : (if t376 = true then (codewrightref02_SameList.l0 k1 l0 l1 (wrap64 (x5_1 + 1))) else (some false)) = some r := H
       have A7 := zA A70
       clear A70
       by_cases c8 : t376 = true
       ·
        subst c8
        have H1 : (codewrightref02_SameList.l0 k1 l0 l1 (wrap64 (x5_1 + 1))) = some r := by rw [if_pos rfl] at H; exact H
        clear H
        have H := H1
        clear H1
        have H' := zA H
        clear H
        try go_wp2
        have n0_ := zA (below_drew1 HB.out)
        clear HB
        have HB := n0_
        clear n0_
        have p374 : 0 ≤ (x5_1 : Int) := of_decide_eq_true (by assumption)
        have q374 : x5_1 < (l0.length : Int) := of_decide_eq_true (by assumption)
        obtain ⟨ad374, A374_1, c374_1, A374_2, c374_2, e374, hx374_0, hx374_1, hx374_2, hl374_1, hi374_1, hl374_2, hi374_2⟩ := at_T52 HR0.out x5_1 p374 q374
        have hw374_2 := hx374_2
        have hw374_1 := hx374_1
        have hw374_0 := hx374_0
        cases e374
        replace hx374_0 := (HB.out.cell (World.block_lt_of_cell? w _ hx374_0)).trans hx374_0
        replace hx374_1 := (HB.out.cell (World.block_lt_of_cell? w _ hx374_1)).trans hx374_1
        replace hx374_2 := (HB.out.cell (World.block_lt_of_cell? w _ hx374_2)).trans hx374_2
        have HR374_1 := zA hi374_1
        have HC374_1 := zA hl374_1
        clear hi374_1 hl374_1
        have HR374_2 := zA hi374_2
        have HC374_2 := zA hl374_2
        clear hi374_2 hl374_2
        replace p374 := eq_true p374
        replace q374 := eq_true q374
        have p375 : 0 ≤ (x5_1 : Int) := of_decide_eq_true (by assumption)
        have q375 : x5_1 < (l1.length : Int) := of_decide_eq_true (by assumption)
        obtain ⟨ad375, A375_1, c375_1, A375_2, c375_2, e375, hx375_0, hx375_1, hx375_2, hl375_1, hi375_1, hl375_2, hi375_2⟩ := at_T52 HR1.out x5_1 p375 q375
        have hw375_2 := hx375_2
        have hw375_1 := hx375_1
        have hw375_0 := hx375_0
        cases e375
        replace hx375_0 := (HB.out.cell (World.block_lt_of_cell? w _ hx375_0)).trans hx375_0
        replace hx375_1 := (HB.out.cell (World.block_lt_of_cell? w _ hx375_1)).trans hx375_1
        replace hx375_2 := (HB.out.cell (World.block_lt_of_cell? w _ hx375_2)).trans hx375_2
        have HR375_1 := zA hi375_1
        have HC375_1 := zA hl375_1
        clear hi375_1 hl375_1
        have HR375_2 := zA hi375_2
        have HC375_2 := zA hl375_2
        clear hi375_2 hl375_2
        replace p375 := eq_true p375
        replace q375 := eq_true q375
        refine start_ (n := 10) (S := fun w' => w'.cell? (ad374.add ((x5_1).toNat * 3)) = some (.bool ((rd_T52 l0 x5_1).f0)) ∧ w'.cell? ⟨(ad374.add ((x5_1).toNat * 3)).block, (ad374.add ((x5_1).toNat * 3)).off + 1, none⟩ = some (.slice A374_1 ((rd_T52 l0 x5_1).f1).length c374_1) ∧ w'.cell? ⟨(ad374.add ((x5_1).toNat * 3)).block, (ad374.add ((x5_1).toNat * 3)).off + 2, none⟩ = some (.slice A374_2 ((rd_T52 l0 x5_1).f2).length c374_2) ∧ w'.cell? (ad375.add ((x5_1).toNat * 3)) = some (.bool ((rd_T52 l1 x5_1).f0)) ∧ w'.cell? ⟨(ad375.add ((x5_1).toNat * 3)).block, (ad375.add ((x5_1).toNat * 3)).off + 1, none⟩ = some (.slice A375_1 ((rd_T52 l1 x5_1).f1).length c375_1) ∧ w'.cell? ⟨(ad375.add ((x5_1).toNat * 3)).block, (ad375.add ((x5_1).toNat * 3)).off + 2, none⟩ = some (.slice A375_2 ((rd_T52 l1 x5_1).f2).length c375_2)) (ds := []) #[false, false, false, false, false, false, false, false, false, false] (by kernel_rfl) rfl rfl ⟨((HB.out.cell (World.block_lt_of_cell? w _ hw374_0)).trans hw374_0), ((HB.out.cell (World.block_lt_of_cell? w _ hw374_1)).trans hw374_1), ((HB.out.cell (World.block_lt_of_cell? w _ hw374_2)).trans hw374_2), ((HB.out.cell (World.block_lt_of_cell? w _ hw375_0)).trans hw375_0), ((HB.out.cell (World.block_lt_of_cell? w _ hw375_1)).trans hw375_1), ((HB.out.cell (World.block_lt_of_cell? w _ hw375_2)).trans hw375_2)⟩ (fun hHeld => ?_); refine with_tabW codewrightref02_SameList.tab6 codewrightref02_SameList.bits6 (fun HT_ HW_ => ?_)
        generalize wr.drew = w9 at HB HR374_1 HR374_2 HR375_1 HR375_2 hx374_0 hx374_1 hx374_2 hx375_0 hx375_1 hx375_2 hHeld ⊢
        refine pure_ (i := 0) (N := some 17) (v := ?_) (a' := ?_) #[true, false, false, false, false, false, false, false, false, false] rfl rfl (any_of HT_.out (by kernel_rfl)) (fun _ _ _ h => h) (Or.inl ⟨by rfl, ?_⟩) ?_ ?_
        rotate_left
        ·
         intro w'
         go_simp
         with_reducible rfl
        rotate_left
        ·
         simp only [Act.put, List.setIfInBounds_toArray, List.set_cons_zero, List.set_cons_succ, i64_w, i32_w]
         rfl
        refine pure_ (i := 1) (N := some 18) (v := ?_) (a' := ?_) #[true, true, false, false, false, false, false, false, false, false] rfl rfl (any_of HT_.out (by kernel_rfl)) (fun _ _ _ h => h) (Or.inl ⟨by rfl, ?_⟩) ?_ ?_
        rotate_left
        ·
         intro w'
         go_simp
         with_reducible rfl
        rotate_left
        ·
         simp only [Act.put, List.setIfInBounds_toArray, List.set_cons_zero, List.set_cons_succ, i64_w, i32_w]
         rfl
        refine pure_ (i := 2) (N := some 19) (v := ?_) (a' := ?_) #[true, true, true, false, false, false, false, false, false, false] rfl rfl (any_of HT_.out (by kernel_rfl)) (fun _ _ _ h => h) (Or.inl ⟨by rfl, ?_⟩) ?_ ?_
        rotate_left
        ·
         intro w'
         go_simp
         with_reducible rfl
        rotate_left
        ·
         simp only [Act.put, List.setIfInBounds_toArray, List.set_cons_zero, List.set_cons_succ, i64_w, i32_w]
         rfl
        refine pure_ (i := 4) (N := some 21) (v := ?_) (a' := ?_) #[true, true, true, false, true, false, false, false, false, false] rfl rfl (any_of HT_.out (by kernel_rfl)) (fun _ _ _ h => h) (Or.inl ⟨by rfl, ?_⟩) ?_ ?_
        rotate_left
        ·
         intro w'
         go_simp
         with_reducible rfl
        rotate_left
        ·
         simp only [Act.put, List.setIfInBounds_toArray, List.set_cons_zero, List.set_cons_succ, i64_w, i32_w]
         rfl
        refine pure_ (i := 5) (N := some 22) (v := ?_) (a' := ?_) #[true, true, true, false, true, true, false, false, false, false] rfl rfl (any_of HT_.out (by kernel_rfl)) (fun _ _ _ h => h) (Or.inl ⟨by rfl, ?_⟩) ?_ ?_
        rotate_left
        ·
         intro w'
         go_simp
         with_reducible rfl
        rotate_left
        ·
         simp only [Act.put, List.setIfInBounds_toArray, List.set_cons_zero, List.set_cons_succ, i64_w, i32_w]
         rfl
        refine pure_ (i := 6) (N := some 23) (v := ?_) (a' := ?_) #[true, true, true, false, true, true, true, false, false, false] rfl rfl (any_of HT_.out (by kernel_rfl)) (fun _ _ _ h => h) (Or.inl ⟨by rfl, ?_⟩) ?_ ?_
        rotate_left
        ·
         intro w'
         go_simp
         with_reducible rfl
        rotate_left
        ·
         simp only [Act.put, List.setIfInBounds_toArray, List.set_cons_zero, List.set_cons_succ, i64_w, i32_w]
         rfl
        refine take_ (i := 3) (N := some 20) (v := ?_) (a' := ?_) #[true, true, true, true, true, true, true, false, false, false] rfl rfl (take_ofW HT_.out HW_.out (by kernel_rfl)) (fun _ _ _ h => h) (Or.inl ⟨by rfl, ?_⟩) hHeld ?_ ?_
        rotate_left
        ·
         rintro w' ⟨s0, s1, s2, s3, s4, s5⟩
         go_simp
         with_reducible rfl
        rotate_left
        ·
         simp only [Act.put, List.setIfInBounds_toArray, List.set_cons_zero, List.set_cons_succ, i64_w, i32_w]
         rfl
        refine take_ (i := 7) (N := some 24) (v := ?_) (a' := ?_) #[true, true, true, true, true, true, true, true, false, false] rfl rfl (take_ofW HT_.out HW_.out (by kernel_rfl)) (fun _ _ _ h => h) (Or.inl ⟨by rfl, ?_⟩) hHeld ?_ ?_
        rotate_left
        ·
         rintro w' ⟨s0, s1, s2, s3, s4, s5⟩
         go_simp
         with_reducible rfl
        rotate_left
        ·
         simp only [Act.put, List.setIfInBounds_toArray, List.set_cons_zero, List.set_cons_succ, i64_w, i32_w]
         rfl
        refine one_ (i := 8) (N := some 25) #[true, true, true, true, true, true, true, true, true, false] rfl rfl (one_of HT_.out (by kernel_rfl)) (by decide) (fun K hK => ?_)
        refine goes_ Try.func37 (by kernel_rfl) rfl #[.agg #[.bool ((rd_T52 l0 x5_1).f0), .slice A374_1 ((rd_T52 l0 x5_1).f1).length c374_1, .slice A374_2 ((rd_T52 l0 x5_1).f2).length c374_2], .agg #[.bool ((rd_T52 l1 x5_1).f0), .slice A375_1 ((rd_T52 l1 x5_1).f1).length c375_1, .slice A375_2 ((rd_T52 l1 x5_1).f2).length c375_2]] (by rfl) rfl rfl (by (try simp only [List.map_toArray, List.map_cons, List.map_nil]); first | done | rfl | (simp only [List.length_drop, List.length_take]; rfl)) ?_
        with_reducible refine (codewrightref02_Same.calls k1 ((rd_T52 l0 x5_1).f0) _ _ ((rd_T52 l0 x5_1).f1) _ _ ((rd_T52 l0 x5_1).f2) ((rd_T52 l1 x5_1).f0) _ _ ((rd_T52 l1 x5_1).f1) _ _ ((rd_T52 l1 x5_1).f2) true _ ?side1 ?side2 ?side3 ?side4 ?side5 ?side6 ?side7 ?side8 A7.out).mono ?_
        (case side1 => exact zC ((Kd.C_below HR374_1.out HB.out)))
        (case side2 => exact HC374_1.out)
        (case side3 => exact zC ((Kd.C_below HR374_2.out HB.out)))
        (case side4 => exact HC374_2.out)
        (case side5 => exact zC ((Kd.C_below HR375_1.out HB.out)))
        (case side6 => exact HC375_1.out)
        (case side7 => exact zC ((Kd.C_below HR375_2.out HB.out)))
        (case side8 => exact HC375_2.out)
        rintro e w10 ⟨rfl, hb⟩
        refine ⟨_, rfl, ?_⟩
        have n0_ := zA (below_step (by exact zB HB) hb)
        clear HB
        have HB := n0_
        clear n0_
        (try clear hb)
        (try clear hb2)
        (try clear hk)
        (try clear hi)
        refine hK.out _ _ ⟨((HB.out.cell (World.block_lt_of_cell? w _ hw374_0)).trans hw374_0), ((HB.out.cell (World.block_lt_of_cell? w _ hw374_1)).trans hw374_1), ((HB.out.cell (World.block_lt_of_cell? w _ hw374_2)).trans hw374_2), ((HB.out.cell (World.block_lt_of_cell? w _ hw375_0)).trans hw375_0), ((HB.out.cell (World.block_lt_of_cell? w _ hw375_1)).trans hw375_1), ((HB.out.cell (World.block_lt_of_cell? w _ hw375_2)).trans hw375_2)⟩ (fun hHeld => ?_)
        clear hK K
        refine norm_ (a' := ?_) ?_ ?_
        rotate_left
        ·
         show Act.put _ (some 25) _ = _
         simp only [Act.put, List.setIfInBounds_toArray, List.set_cons_zero, List.set_cons_succ, i64_w, i32_w]
         rfl
        refine pure_ (i := 9) (N := some 26) (v := ?_) (a' := ?_) #[true, true, true, true, true, true, true, true, true, true] rfl rfl (any_of HT_.out (by kernel_rfl)) (fun _ _ _ h => h) (Or.inl ⟨by rfl, ?_⟩) ?_ ?_
        rotate_left
        ·
         intro w'
         go_simp
         with_reducible rfl
        rotate_left
        ·
         simp only [Act.put, List.setIfInBounds_toArray, List.set_cons_zero, List.set_cons_succ, i64_w, i32_w]
         rfl
        refine done_ (done_of HT_.out (by kernel_rfl)) ?_
        try go_wp2
        go_roundg k1
        case measure => have := HK1.out; omega
        case rel => exact ⟨(wrap64 (x5_1 + 1)), (by first | rfl | (simp; done) | (simp [*]; done)), H', ⟨by have := HK1.out; omega⟩, ⟨by exact zB HB⟩⟩
       ·
        replace c8 := Bool.eq_false_iff.mpr c8
        subst c8
        have H1 : (some false) = some r := by rw [if_neg (show ¬ (false = true) by decide)] at H; exact H
        clear H
        have H := H1
        clear H1
        obtain rfl := Option.some.inj H
        try go_wp2
        have n0_ := zA (below_drew1 HB.out)
        clear HB
        have HB := n0_
        clear n0_
        have p374 : 0 ≤ (x5_1 : Int) := of_decide_eq_true (by assumption)
        have q374 : x5_1 < (l0.length : Int) := of_decide_eq_true (by assumption)
        obtain ⟨ad374, A374_1, c374_1, A374_2, c374_2, e374, hx374_0, hx374_1, hx374_2, hl374_1, hi374_1, hl374_2, hi374_2⟩ := at_T52 HR0.out x5_1 p374 q374
        have hw374_2 := hx374_2
        have hw374_1 := hx374_1
        have hw374_0 := hx374_0
        cases e374
        replace hx374_0 := (HB.out.cell (World.block_lt_of_cell? w _ hx374_0)).trans hx374_0
        replace hx374_1 := (HB.out.cell (World.block_lt_of_cell? w _ hx374_1)).trans hx374_1
        replace hx374_2 := (HB.out.cell (World.block_lt_of_cell? w _ hx374_2)).trans hx374_2
        have HR374_1 := zA hi374_1
        have HC374_1 := zA hl374_1
        clear hi374_1 hl374_1
        have HR374_2 := zA hi374_2
        have HC374_2 := zA hl374_2
        clear hi374_2 hl374_2
        replace p374 := eq_true p374
        replace q374 := eq_true q374
        have p375 : 0 ≤ (x5_1 : Int) := of_decide_eq_true (by assumption)
        have q375 : x5_1 < (l1.length : Int) := of_decide_eq_true (by assumption)
        obtain ⟨ad375, A375_1, c375_1, A375_2, c375_2, e375, hx375_0, hx375_1, hx375_2, hl375_1, hi375_1, hl375_2, hi375_2⟩ := at_T52 HR1.out x5_1 p375 q375
        have hw375_2 := hx375_2
        have hw375_1 := hx375_1
        have hw375_0 := hx375_0
        cases e375
        replace hx375_0 := (HB.out.cell (World.block_lt_of_cell? w _ hx375_0)).trans hx375_0
        replace hx375_1 := (HB.out.cell (World.block_lt_of_cell? w _ hx375_1)).trans hx375_1
        replace hx375_2 := (HB.out.cell (World.block_lt_of_cell? w _ hx375_2)).trans hx375_2
        have HR375_1 := zA hi375_1
        have HC375_1 := zA hl375_1
        clear hi375_1 hl375_1
        have HR375_2 := zA hi375_2
        have HC375_2 := zA hl375_2
        clear hi375_2 hl375_2
        replace p375 := eq_true p375
        replace q375 := eq_true q375
        refine start_ (n := 10) (S := fun w' => w'.cell? (ad374.add ((x5_1).toNat * 3)) = some (.bool ((rd_T52 l0 x5_1).f0)) ∧ w'.cell? ⟨(ad374.add ((x5_1).toNat * 3)).block, (ad374.add ((x5_1).toNat * 3)).off + 1, none⟩ = some (.slice A374_1 ((rd_T52 l0 x5_1).f1).length c374_1) ∧ w'.cell? ⟨(ad374.add ((x5_1).toNat * 3)).block, (ad374.add ((x5_1).toNat * 3)).off + 2, none⟩ = some (.slice A374_2 ((rd_T52 l0 x5_1).f2).length c374_2) ∧ w'.cell? (ad375.add ((x5_1).toNat * 3)) = some (.bool ((rd_T52 l1 x5_1).f0)) ∧ w'.cell? ⟨(ad375.add ((x5_1).toNat * 3)).block, (ad375.add ((x5_1).toNat * 3)).off + 1, none⟩ = some (.slice A375_1 ((rd_T52 l1 x5_1).f1).length c375_1) ∧ w'.cell? ⟨(ad375.add ((x5_1).toNat * 3)).block, (ad375.add ((x5_1).toNat * 3)).off + 2, none⟩ = some (.slice A375_2 ((rd_T52 l1 x5_1).f2).length c375_2)) (ds := []) #[false, false, false, false, false, false, false, false, false, false] (by kernel_rfl) rfl rfl ⟨((HB.out.cell (World.block_lt_of_cell? w _ hw374_0)).trans hw374_0), ((HB.out.cell (World.block_lt_of_cell? w _ hw374_1)).trans hw374_1), ((HB.out.cell (World.block_lt_of_cell? w _ hw374_2)).trans hw374_2), ((HB.out.cell (World.block_lt_of_cell? w _ hw375_0)).trans hw375_0), ((HB.out.cell (World.block_lt_of_cell? w _ hw375_1)).trans hw375_1), ((HB.out.cell (World.block_lt_of_cell? w _ hw375_2)).trans hw375_2)⟩ (fun hHeld => ?_); refine with_tabW codewrightref02_SameList.tab6 codewrightref02_SameList.bits6 (fun HT_ HW_ => ?_)
        generalize wr.drew = w11 at HB HR374_1 HR374_2 HR375_1 HR375_2 hx374_0 hx374_1 hx374_2 hx375_0 hx375_1 hx375_2 hHeld ⊢
        refine pure_ (i := 0) (N := some 17) (v := ?_) (a' := ?_) #[true, false, false, false, false, false, false, false, false, false] rfl rfl (any_of HT_.out (by kernel_rfl)) (fun _ _ _ h => h) (Or.inl ⟨by rfl, ?_⟩) ?_ ?_
        rotate_left
        ·
         intro w'
         go_simp
         with_reducible rfl
        rotate_left
        ·
         simp only [Act.put, List.setIfInBounds_toArray, List.set_cons_zero, List.set_cons_succ, i64_w, i32_w]
         rfl
        refine pure_ (i := 1) (N := some 18) (v := ?_) (a' := ?_) #[true, true, false, false, false, false, false, false, false, false] rfl rfl (any_of HT_.out (by kernel_rfl)) (fun _ _ _ h => h) (Or.inl ⟨by rfl, ?_⟩) ?_ ?_
        rotate_left
        ·
         intro w'
         go_simp
         with_reducible rfl
        rotate_left
        ·
         simp only [Act.put, List.setIfInBounds_toArray, List.set_cons_zero, List.set_cons_succ, i64_w, i32_w]
         rfl
        refine pure_ (i := 2) (N := some 19) (v := ?_) (a' := ?_) #[true, true, true, false, false, false, false, false, false, false] rfl rfl (any_of HT_.out (by kernel_rfl)) (fun _ _ _ h => h) (Or.inl ⟨by rfl, ?_⟩) ?_ ?_
        rotate_left
        ·
         intro w'
         go_simp
         with_reducible rfl
        rotate_left
        ·
         simp only [Act.put, List.setIfInBounds_toArray, List.set_cons_zero, List.set_cons_succ, i64_w, i32_w]
         rfl
        refine pure_ (i := 4) (N := some 21) (v := ?_) (a' := ?_) #[true, true, true, false, true, false, false, false, false, false] rfl rfl (any_of HT_.out (by kernel_rfl)) (fun _ _ _ h => h) (Or.inl ⟨by rfl, ?_⟩) ?_ ?_
        rotate_left
        ·
         intro w'
         go_simp
         with_reducible rfl
        rotate_left
        ·
         simp only [Act.put, List.setIfInBounds_toArray, List.set_cons_zero, List.set_cons_succ, i64_w, i32_w]
         rfl
        refine pure_ (i := 5) (N := some 22) (v := ?_) (a' := ?_) #[true, true, true, false, true, true, false, false, false, false] rfl rfl (any_of HT_.out (by kernel_rfl)) (fun _ _ _ h => h) (Or.inl ⟨by rfl, ?_⟩) ?_ ?_
        rotate_left
        ·
         intro w'
         go_simp
         with_reducible rfl
        rotate_left
        ·
         simp only [Act.put, List.setIfInBounds_toArray, List.set_cons_zero, List.set_cons_succ, i64_w, i32_w]
         rfl
        refine pure_ (i := 6) (N := some 23) (v := ?_) (a' := ?_) #[true, true, true, false, true, true, true, false, false, false] rfl rfl (any_of HT_.out (by kernel_rfl)) (fun _ _ _ h => h) (Or.inl ⟨by rfl, ?_⟩) ?_ ?_
        rotate_left
        ·
         intro w'
         go_simp
         with_reducible rfl
        rotate_left
        ·
         simp only [Act.put, List.setIfInBounds_toArray, List.set_cons_zero, List.set_cons_succ, i64_w, i32_w]
         rfl
        refine take_ (i := 3) (N := some 20) (v := ?_) (a' := ?_) #[true, true, true, true, true, true, true, false, false, false] rfl rfl (take_ofW HT_.out HW_.out (by kernel_rfl)) (fun _ _ _ h => h) (Or.inl ⟨by rfl, ?_⟩) hHeld ?_ ?_
        rotate_left
        ·
         rintro w' ⟨s0, s1, s2, s3, s4, s5⟩
         go_simp
         with_reducible rfl
        rotate_left
        ·
         simp only [Act.put, List.setIfInBounds_toArray, List.set_cons_zero, List.set_cons_succ, i64_w, i32_w]
         rfl
        refine take_ (i := 7) (N := some 24) (v := ?_) (a' := ?_) #[true, true, true, true, true, true, true, true, false, false] rfl rfl (take_ofW HT_.out HW_.out (by kernel_rfl)) (fun _ _ _ h => h) (Or.inl ⟨by rfl, ?_⟩) hHeld ?_ ?_
        rotate_left
        ·
         rintro w' ⟨s0, s1, s2, s3, s4, s5⟩
         go_simp
         with_reducible rfl
        rotate_left
        ·
         simp only [Act.put, List.setIfInBounds_toArray, List.set_cons_zero, List.set_cons_succ, i64_w, i32_w]
         rfl
        refine one_ (i := 8) (N := some 25) #[true, true, true, true, true, true, true, true, true, false] rfl rfl (one_of HT_.out (by kernel_rfl)) (by decide) (fun K hK => ?_)
        refine goes_ Try.func37 (by kernel_rfl) rfl #[.agg #[.bool ((rd_T52 l0 x5_1).f0), .slice A374_1 ((rd_T52 l0 x5_1).f1).length c374_1, .slice A374_2 ((rd_T52 l0 x5_1).f2).length c374_2], .agg #[.bool ((rd_T52 l1 x5_1).f0), .slice A375_1 ((rd_T52 l1 x5_1).f1).length c375_1, .slice A375_2 ((rd_T52 l1 x5_1).f2).length c375_2]] (by rfl) rfl rfl (by (try simp only [List.map_toArray, List.map_cons, List.map_nil]); first | done | rfl | (simp only [List.length_drop, List.length_take]; rfl)) ?_
        with_reducible refine (codewrightref02_Same.calls k1 ((rd_T52 l0 x5_1).f0) _ _ ((rd_T52 l0 x5_1).f1) _ _ ((rd_T52 l0 x5_1).f2) ((rd_T52 l1 x5_1).f0) _ _ ((rd_T52 l1 x5_1).f1) _ _ ((rd_T52 l1 x5_1).f2) false _ ?side1 ?side2 ?side3 ?side4 ?side5 ?side6 ?side7 ?side8 A7.out).mono ?_
        (case side1 => exact zC ((Kd.C_below HR374_1.out HB.out)))
        (case side2 => exact HC374_1.out)
        (case side3 => exact zC ((Kd.C_below HR374_2.out HB.out)))
        (case side4 => exact HC374_2.out)
        (case side5 => exact zC ((Kd.C_below HR375_1.out HB.out)))
        (case side6 => exact HC375_1.out)
        (case side7 => exact zC ((Kd.C_below HR375_2.out HB.out)))
        (case side8 => exact HC375_2.out)
        rintro e w12 ⟨rfl, hb⟩
        refine ⟨_, rfl, ?_⟩
        have n0_ := zA (below_step (by exact zB HB) hb)
        clear HB
        have HB := n0_
        clear n0_
        (try clear hb)
        (try clear hb2)
        (try clear hk)
        (try clear hi)
        refine hK.out _ _ ⟨((HB.out.cell (World.block_lt_of_cell? w _ hw374_0)).trans hw374_0), ((HB.out.cell (World.block_lt_of_cell? w _ hw374_1)).trans hw374_1), ((HB.out.cell (World.block_lt_of_cell? w _ hw374_2)).trans hw374_2), ((HB.out.cell (World.block_lt_of_cell? w _ hw375_0)).trans hw375_0), ((HB.out.cell (World.block_lt_of_cell? w _ hw375_1)).trans hw375_1), ((HB.out.cell (World.block_lt_of_cell? w _ hw375_2)).trans hw375_2)⟩ (fun hHeld => ?_)
        clear hK K
        refine norm_ (a' := ?_) ?_ ?_
        rotate_left
        ·
         show Act.put _ (some 25) _ = _
         simp only [Act.put, List.setIfInBounds_toArray, List.set_cons_zero, List.set_cons_succ, i64_w, i32_w]
         rfl
        refine pure_ (i := 9) (N := some 26) (v := ?_) (a' := ?_) #[true, true, true, true, true, true, true, true, true, true] rfl rfl (any_of HT_.out (by kernel_rfl)) (fun _ _ _ h => h) (Or.inl ⟨by rfl, ?_⟩) ?_ ?_
        rotate_left
        ·
         intro w'
         go_simp
         with_reducible rfl
        rotate_left
        ·
         simp only [Act.put, List.setIfInBounds_toArray, List.set_cons_zero, List.set_cons_succ, i64_w, i32_w]
         rfl
        refine done_ (done_of HT_.out (by kernel_rfl)) ?_
        try go_wp2
        go_ret
        exact ⟨by first | rfl | (simp [errW_none, errW_some] <;> rfl) | (simp [*, errW_none, errW_some] <;> rfl), by exact zB HB⟩
      ·
       rw [if_neg c6] at H
       exact absurd H (by simp)
     ·
      rw [if_neg c5] at H
      exact absurd H (by simp)
    ·
     rw [if_neg c4] at H
     have c4b0 : decide (x5_1 < (l0.length : Int)) = false := decide_eq_false c4
     clear c4
     obtain rfl := Option.some.inj H
     go_wp2
     go_ret
     exact ⟨by first | rfl | (simp [errW_none, errW_some] <;> rfl) | (simp [*, errW_none, errW_some] <;> rfl), by exact zB HB⟩
 ·
  rw [if_neg c3] at H
  have c3b0 : ((l0.length : Int) == (l1.length : Int)) = false := beq_eq_false_iff_ne.mpr c3
  have c3b1 : ((l0.length : Int) != (l1.length : Int)) = true := bne_iff_ne.mpr c3
  have c3b2 : (l0.length == l1.length) = false := by first | simpa using c3 | (simp at c3 ⊢; omega)
  obtain rfl := Option.some.inj H
  go_enter Try.func61, Try.ntmps61
  go_wp2
  go_ret
  exact ⟨by first | rfl | (simp [errW_none, errW_some] <;> rfl) | (simp [*, errW_none, errW_some] <;> rfl), by exact zB HB⟩
/-! ### codewrightlaw55_same: function 20 -/
def codewrightlaw55_same.f (k : Nat) (l0 : List (S52)) (l1 : List (S52)) : Option (Bool) := (codewrightref02_SameList.f k l0 l1).bind fun t377 => (some t377)
set_option maxHeartbeats 8000000 in
set_option maxRecDepth 100000 in
theorem codewrightlaw55_same.calls (k : Nat) (A0 : Option Addr) (c0 : Nat) (l0 : List (S52)) (A1 : Option Addr) (c1 : Nat) (l1 : List (S52)) (r : Bool) (w : World) (hr0 : Kd.C k52 w A0 l0.length l0) (hc0 : l0.length ≤ c0) (hr1 : Kd.C k52 w A1 l1.length l1) (hc1 : l1.length ≤ c1) (h : codewrightlaw55_same.f k l0 l1 = some r) :
  Calls Try.prog 20 #[.slice A0 l0.length c0, .slice A1 l1.length c1] w fun e w' => e = .returned (.bool r) ∧ Below w.heap.size w w' := by
 have HR0 := zA hr0
 have HC0 := zA hc0
 clear hr0 hc0
 have HR1 := zA hr1
 have HC1 := zA hc1
 clear hr1 hc1
 have HB := zA (Below.refl w.heap.size w)
 have H : ((codewrightref02_SameList.f k l0 l1).bind fun t377 => (some t377)) = some r := h
 clear h
 replace H := Option.bind_eq_some_iff.mp H
 obtain ⟨t377, A30, H⟩ := H
 replace H : (some t377) = some r := H
 have A3 := zA A30
 clear A30
 obtain rfl := Option.some.inj H
 go_enter Try.func20, Try.ntmps20
 go_wp2_with (first | ((with_reducible refine gate_callee (f := 61) rfl ?_); refine goesL_ (some 7) rfl rfl Try.func61 (by kernel_rfl) rfl #[.slice A0 l0.length c0, .slice A1 l1.length c1] rfl (by (try simp only [List.map_toArray, List.map_cons, List.map_nil]); first | done | rfl | (simp only [List.length_drop, List.length_take]; rfl)) ?_; (with_reducible refine (codewrightref02_SameList.calls k _ _ l0 _ _ l1 t377 _ ?side1 ?side2 ?side3 ?side4 A3.out).mono ?_); (case side1 => exact zC (HR0.out)); (case side2 => exact HC0.out); (case side3 => exact zC (HR1.out)); (case side4 => exact HC1.out); rintro e w4 ⟨rfl, hb⟩; refine ⟨_, rfl, ?_⟩; replace HB := zA (below_step (by exact zB HB) hb); (try clear hb)))
 go_ret
 exact ⟨by first | rfl | (simp [errW_none, errW_some] <;> rfl) | (simp [*, errW_none, errW_some] <;> rfl), by exact zB HB⟩
/-! ### codewrightref01_Trim: function 59 -/
def codewrightref01_Trim.l0 : Nat → List Int → Int → Option (List Int)
 | 0, _, _ => none
 | k + 1, x0, x3 => if x3 > 0 then (if 0 ≤ (wrap64 (x3 - 1)) then (if (wrap64 (x3 - 1)) < (x0.length : Int) then (if (rd x0 (wrap64 (x3 - 1))) = 0 then (codewrightref01_Trim.l0 k x0 (wrap64 (x3 - 1))) else ((some (([] : List Int) : List Int)).bind fun y379 => (if 0 ≤ x3 then (if x3 ≤ (x0.length : Int) then (if y379.length + (x0.take (x3 : Int).toNat).length < 35184372088832 then (some (y379 ++ (x0.take (x3 : Int).toNat))) else (none)) else (none)) else (none)))) else (none)) else (none)) else ((some (([] : List Int) : List Int)).bind fun y386 => (if 0 ≤ x3 then (if x3 ≤ (x0.length : Int) then (if y386.length + (x0.take (x3 : Int).toNat).length < 35184372088832 then (some (y386 ++ (x0.take (x3 : Int).toNat))) else (none)) else (none)) else (none)))
def codewrightref01_Trim.f (k : Nat) (l0 : List Int) : Option (List Int) := codewrightref01_Trim.l0 k l0 (l0.length : Int)
set_option maxHeartbeats 8000000 in
set_option maxRecDepth 100000 in
theorem codewrightref01_Trim.calls (k : Nat) (A0 : Option Addr) (c0 : Nat) (l0 : List Int) (r : List Int) (w : World) (hr0 : Kd.C (Kd.int .u32) w A0 l0.length l0) (hc0 : l0.length ≤ c0) (h : codewrightref01_Trim.f k l0 = some r) :
  Calls Try.prog 59 #[.slice A0 l0.length c0] w fun e w' => ∃ v0_ : Value, e = .returned (v0_) ∧ Kd.R (Kd.int .u32) 79 w' w.heap.size (fun _ => True) v0_ r ∧ Below w.heap.size w w' := by
 have HR0 := zA hr0
 have HC0 := zA hc0
 clear hr0 hc0
 have HB := zA (Below.refl w.heap.size w)
 have H : (codewrightref01_Trim.l0 k l0 (l0.length : Int)) = some r := h
 clear h
 have H' := zA H
 clear H
 go_enter Try.func59, Try.ntmps59
 go_wp2
 go_loopg [3] k (fun kq v3 w' => ∃ (x3_1 : Int), v3 = .int .i64 x3_1 ∧ Aside0 (codewrightref01_Trim.l0 kq l0 x3_1 = some r) ∧ Aside0 (kq ≤ k) ∧ Aside0 (Below w.heap.size w w'))
 case atStart => exact ⟨((l0.length : Int)), (by first | rfl | (simp; done) | (simp [*]; done)), H', ⟨Nat.le_refl _⟩, ⟨by exact zB HB⟩⟩
 case round =>
  clear H'
  obtain ⟨x3_1, rfl, HA, HK1, HB⟩ := hrel
  cases gk with
  | zero => exact absurd HA.out (by simp [codewrightref01_Trim.l0])
  | succ k1 =>
   have H := HA.out
   clear HA
   simp only [codewrightref01_Trim.l0] at H
   by_cases c2 : x3_1 > 0
   ·
    rw [if_pos c2] at H
    have c2b0 : decide (0 < x3_1) = true := decide_eq_true c2
    clear c2
    obtain ⟨ji3, hji3⟩ : ∃ j_ : Int, (wrap64 (x3_1 - 1)) = j_ := ⟨_, rfl⟩
    replace H : (if 0 ≤ (ji3) then (if (ji3) < (l0.length : Int) then (if (rd l0 (ji3)) = 0 then (codewrightref01_Trim.l0 k1 l0 ji3) else ((some (([] : List Int) : List Int)).bind fun y379 => (if 0 ≤ x3_1 then (if x3_1 ≤ (l0.length : Int) then (if y379.length + (l0.take (x3_1 : Int).toNat).length < 35184372088832 then (some (y379 ++ (l0.take (x3_1 : Int).toNat))) else (none)) else (none)) else (none)))) else (none)) else (none)) = some r := by first | (rw [hji3] at H; exact H) | (simp only [hji3] at H ⊢; exact H)
    have hji3w : (IntKind.i64.wrap (x3_1 - 1)) = ji3 := (i64_w _).trans hji3
    by_cases c4 : 0 ≤ (ji3)
    ·
     rw [if_pos c4] at H
     have c4b0 : decide (0 ≤ (ji3)) = true := decide_eq_true c4
     clear c4
     by_cases c5 : (ji3) < (l0.length : Int)
     ·
      rw [if_pos c5] at H
      have c5b0 : decide ((ji3) < (l0.length : Int)) = true := decide_eq_true c5
      clear c5
      by_cases c6 : (rd l0 (ji3)) = 0
      ·
       rw [if_pos c6] at H
       have c6b0 : ((rd l0 (ji3)) == 0) = true := beq_iff_eq.mpr c6
       have c6b1 : ((rd l0 (ji3)) != 0) = false := bne_eq_false_iff_eq.mpr c6
       clear c6
       have H' := zA H
       clear H
       have p378 : 0 ≤ ((ji3) : Int) := of_decide_eq_true (by assumption)
       have q378 : (ji3) < (l0.length : Int) := of_decide_eq_true (by assumption)
       obtain ⟨ad378, e378, hx378_0⟩ := Kd.at_int HR0.out (ji3) p378 q378
       cases e378
       replace hx378_0 := (HB.out.cell (World.block_lt_of_cell? w _ hx378_0)).trans hx378_0
       replace p378 := eq_true p378
       replace q378 := eq_true q378
       go_wp2
       go_roundg k1
       case measure => have := HK1.out; omega
       case rel => exact ⟨(ji3), (by first | rfl | (simp; done) | (simp only [← hji3] <;> (first | rfl | simp)) | (simp [*]; done)), H', ⟨by have := HK1.out; omega⟩, ⟨by exact zB HB⟩⟩
      ·
       rw [if_neg c6] at H
       have c6b0 : ((rd l0 (ji3)) == 0) = false := beq_eq_false_iff_ne.mpr c6
       have c6b1 : ((rd l0 (ji3)) != 0) = true := bne_iff_ne.mpr c6
       obtain ⟨y379, hy379⟩ : ∃ y_ : List Int, y_ = (([] : List Int)) := ⟨_, rfl⟩
       replace H : (if 0 ≤ x3_1 then (if x3_1 ≤ (l0.length : Int) then (if y379.length + (l0.take (x3_1 : Int).toNat).length < 35184372088832 then (some (y379 ++ (l0.take (x3_1 : Int).toNat))) else (none)) else (none)) else (none)) = some r := by first | (rw [hy379]; with_reducible exact H) | (have H := (Option.bind_some _ _).symm.trans H; first | (rw [hy379]; with_reducible exact H) | with_reducible exact H) | (rw [hy379]; exact H) | exact H
       have Ny379 := zA hy379
       clear hy379
       by_cases c7 : 0 ≤ x3_1
       ·
        rw [if_pos c7] at H
        have c7b0 := eq_true c7
        have c7b1 : decide (0 ≤ x3_1) = true := decide_eq_true c7
        clear c7
        by_cases c8 : x3_1 ≤ (l0.length : Int)
        ·
         rw [if_pos c8] at H
         have c8b0 := eq_true c8
         have c8b1 : decide (x3_1 ≤ (l0.length : Int)) = true := decide_eq_true c8
         clear c8
         by_cases c9 : y379.length + (l0.take (x3_1 : Int).toNat).length < 35184372088832
         ·
          rw [if_pos c9] at H
          have LMc9 := zA c9
          clear c9
          obtain ⟨y383, hy383⟩ : ∃ y_ : List Int, y_ = (y379 ++ (l0.take (x3_1 : Int).toNat)) := ⟨_, rfl⟩
          replace H : (some y383) = some r := by first | (rw [hy383]; with_reducible exact H) | (have H := (Option.bind_some _ _).symm.trans H; first | (rw [hy383]; with_reducible exact H) | with_reducible exact H) | (rw [hy383]; exact H) | exact H
          have Ny383 := zA hy383
          clear hy383
          obtain rfl := Option.some.inj H
          have p378 : 0 ≤ ((ji3) : Int) := of_decide_eq_true (by assumption)
          have q378 : (ji3) < (l0.length : Int) := of_decide_eq_true (by assumption)
          obtain ⟨ad378, e378, hx378_0⟩ := Kd.at_int HR0.out (ji3) p378 q378
          cases e378
          replace hx378_0 := (HB.out.cell (World.block_lt_of_cell? w _ hx378_0)).trans hx378_0
          replace p378 := eq_true p378
          replace q378 := eq_true q378
          go_wp2_with (first | ((with_reducible refine gate_dst (N := 18) rfl ?_); refine Kd.R_lit (Kd.int .u32) _ 79 ?hg (N := 18) ?hd (xs := ([] : List Int)) (inner := []) (ok := fun _ => True) (okp := fun _ => True) ?hr ?hp (fun _ hk => hk) trivial (Below.refl _ _) (Nat.le_refl _) (by simp) ?_; (case hd => rfl); (case hg => rfl); (case hr => first | (go_simp; done) | (go_simp; rfl)); (case hp => exact (Reps.none _ _)); intro v380 w10 ho11 hb hg_ hnew_; clear hg_ hnew_; (first | rw [← Ny379.out] at ho11 | (simp only [Int.reduceToNat] at ho11; rw [← Ny379.out] at ho11)); have HO381 := zA (Kd.R_lower ho11 (below_size (by exact zB HB))); replace HB := zA (below_step (by exact zB HB) hb); clear hb ho11; obtain ⟨i012, hi012, _, hsz12, _⟩ := info_parts info79; obtain ⟨hcut12, hA12, hC12⟩ := print_take_of (P := Try.prog) (Value.int .u32) 0 32 79 .i64 Try.underlying32 hi012 hsz12 (some ad378) c0 l0 x3_1 (of_decide_eq_true (by assumption)) (of_decide_eq_true (by assumption)) HC0.out; have HR382 := zA (Kd.C_of_reads (h1 := fun _ => rfl) (hA12 _ (Kd.reads_of_C HR0.out))); have HC382 := zA hC12; clear hA12 hC12 hi012 hsz12) | ((with_reducible refine gate_builtin (b := .append) (xs := #[(.tmp 18), .tmp 21]) rfl ?_); at_builtin; refine Kd.R_append_rows (Kd.int .u32) (w0 := w) w.heap.size rfl (.tmp 18) (.tmp 21) 32 79 (.int .u32 0) 4 rfl Try.underlying32 info79 rfl (by decide) (by omega) v380 y379 (l0.take (x3_1 : Int).toNat) _ _ _ (fun _ => True) (fun _ => False) rfl rfl ?aO ?aR (fun _ _ h => h) (fun _ h => h.elim) ?aF ?aB ?aS ?aL ?_; (case aR => first | (refine cast (congrArg (fun m_ => ReadsRow _ _ _ _ m_ _) (show (l0.take (x3_1 : Int).toNat).length = x3_1.toNat from (by rw [List.length_take]; have h_ : (x3_1 : Int) ≤ (l0.length : Int) := of_decide_eq_true (by assumption); omega))) ?_; exact zC ((Kd.C_below HR382.out HB.out))) | (exact zC ((Kd.C_below HR382.out HB.out)))); (case aB => exact (by exact zB HB)); (case aF => exact (fun _ _ => trivial)); (case aO => exact (by exact zR HO381)); (case aS => exact (below_size (by exact zB HB))); (case aL => have := LMc9.out; have hlx_ := (show (l0.take (x3_1 : Int).toNat).length = x3_1.toNat from (by rw [List.length_take]; have h_ : (x3_1 : Int) ≤ (l0.length : Int) := of_decide_eq_true (by assumption); omega)); omega); intro v384 w13 ho hb hg hat; rw [← Ny383.out] at ho; have n0_ := zA (hb); have n1_ := zA (ho); clear HB; clear HO381; have HB := n0_; have HO385 := n1_; clear n0_ n1_; clear ho hb hg hat))
          go_ret
          exact ⟨_, by first | rfl | (simp [errW_none, errW_some] <;> rfl) | (simp only [← hji3]; first | rfl | (simp [errW_none, errW_some] <;> rfl)) | (simp [*, errW_none, errW_some] <;> rfl), by exact zR HO385, by exact zB HB⟩
         ·
          rw [if_neg c9] at H
          exact absurd H (by simp)
        ·
         rw [if_neg c8] at H
         exact absurd H (by simp)
       ·
        rw [if_neg c7] at H
        exact absurd H (by simp)
     ·
      rw [if_neg c5] at H
      exact absurd H (by simp)
    ·
     rw [if_neg c4] at H
     exact absurd H (by simp)
   ·
    rw [if_neg c2] at H
    have c2b0 : decide (0 < x3_1) = false := decide_eq_false c2
    clear c2
    obtain ⟨y386, hy386⟩ : ∃ y_ : List Int, y_ = (([] : List Int)) := ⟨_, rfl⟩
    replace H : (if 0 ≤ x3_1 then (if x3_1 ≤ (l0.length : Int) then (if y386.length + (l0.take (x3_1 : Int).toNat).length < 35184372088832 then (some (y386 ++ (l0.take (x3_1 : Int).toNat))) else (none)) else (none)) else (none)) = some r := by first | (rw [hy386]; with_reducible exact H) | (have H := (Option.bind_some _ _).symm.trans H; first | (rw [hy386]; with_reducible exact H) | with_reducible exact H) | (rw [hy386]; exact H) | exact H
    have Ny386 := zA hy386
    clear hy386
    by_cases c14 : 0 ≤ x3_1
    ·
     rw [if_pos c14] at H
     have c14b0 := eq_true c14
     have c14b1 : decide (0 ≤ x3_1) = true := decide_eq_true c14
     clear c14
     by_cases c15 : x3_1 ≤ (l0.length : Int)
     ·
      rw [if_pos c15] at H
      have c15b0 := eq_true c15
      have c15b1 : decide (x3_1 ≤ (l0.length : Int)) = true := decide_eq_true c15
      clear c15
      by_cases c16 : y386.length + (l0.take (x3_1 : Int).toNat).length < 35184372088832
      ·
       rw [if_pos c16] at H
       have LMc16 := zA c16
       clear c16
       obtain ⟨y390, hy390⟩ : ∃ y_ : List Int, y_ = (y386 ++ (l0.take (x3_1 : Int).toNat)) := ⟨_, rfl⟩
       replace H : (some y390) = some r := by first | (rw [hy390]; with_reducible exact H) | (have H := (Option.bind_some _ _).symm.trans H; first | (rw [hy390]; with_reducible exact H) | with_reducible exact H) | (rw [hy390]; exact H) | exact H
       have Ny390 := zA hy390
       clear hy390
       obtain rfl := Option.some.inj H
       go_wp2_with (first | ((with_reducible refine gate_dst (N := 18) rfl ?_); refine Kd.R_lit (Kd.int .u32) _ 79 ?hg (N := 18) ?hd (xs := ([] : List Int)) (inner := []) (ok := fun _ => True) (okp := fun _ => True) ?hr ?hp (fun _ hk => hk) trivial (Below.refl _ _) (Nat.le_refl _) (by simp) ?_; (case hd => rfl); (case hg => rfl); (case hr => first | (go_simp; done) | (go_simp; rfl)); (case hp => exact (Reps.none _ _)); intro v387 w17 ho18 hb hg_ hnew_; clear hg_ hnew_; (first | rw [← Ny386.out] at ho18 | (simp only [Int.reduceToNat] at ho18; rw [← Ny386.out] at ho18)); have HO388 := zA (Kd.R_lower ho18 (below_size (by exact zB HB))); replace HB := zA (below_step (by exact zB HB) hb); clear hb ho18; obtain ⟨i019, hi019, _, hsz19, _⟩ := info_parts info79; obtain ⟨hcut19, hA19, hC19⟩ := print_take_of (P := Try.prog) (Value.int .u32) 0 32 79 .i64 Try.underlying32 hi019 hsz19 A0 c0 l0 x3_1 (of_decide_eq_true (by assumption)) (of_decide_eq_true (by assumption)) HC0.out; have HR389 := zA (Kd.C_of_reads (h1 := fun _ => rfl) (hA19 _ (Kd.reads_of_C HR0.out))); have HC389 := zA hC19; clear hA19 hC19 hi019 hsz19) | ((with_reducible refine gate_builtin (b := .append) (xs := #[(.tmp 18), .tmp 21]) rfl ?_); at_builtin; refine Kd.R_append_rows (Kd.int .u32) (w0 := w) w.heap.size rfl (.tmp 18) (.tmp 21) 32 79 (.int .u32 0) 4 rfl Try.underlying32 info79 rfl (by decide) (by omega) v387 y386 (l0.take (x3_1 : Int).toNat) _ _ _ (fun _ => True) (fun _ => False) rfl rfl ?aO ?aR (fun _ _ h => h) (fun _ h => h.elim) ?aF ?aB ?aS ?aL ?_; (case aR => first | (refine cast (congrArg (fun m_ => ReadsRow _ _ _ _ m_ _) (show (l0.take (x3_1 : Int).toNat).length = x3_1.toNat from (by rw [List.length_take]; have h_ : (x3_1 : Int) ≤ (l0.length : Int) := of_decide_eq_true (by assumption); omega))) ?_; exact zC ((Kd.C_below HR389.out HB.out))) | (exact zC ((Kd.C_below HR389.out HB.out)))); (case aB => exact (by exact zB HB)); (case aF => exact (fun _ _ => trivial)); (case aO => exact (by exact zR HO388)); (case aS => exact (below_size (by exact zB HB))); (case aL => have := LMc16.out; have hlx_ := (show (l0.take (x3_1 : Int).toNat).length = x3_1.toNat from (by rw [List.length_take]; have h_ : (x3_1 : Int) ≤ (l0.length : Int) := of_decide_eq_true (by assumption); omega)); omega); intro v391 w20 ho hb hg hat; rw [← Ny390.out] at ho; have n0_ := zA (hb); have n1_ := zA (ho); clear HB; clear HO388; have HB := n0_; have HO392 := n1_; clear n0_ n1_; clear ho hb hg hat))
       go_ret
       exact ⟨_, by first | rfl | (simp [errW_none, errW_some] <;> rfl) | (simp [*, errW_none, errW_some] <;> rfl), by exact zR HO392, by exact zB HB⟩
      ·
       rw [if_neg c16] at H
       exact absurd H (by simp)
     ·
      rw [if_neg c15] at H
      exact absurd H (by simp)
    ·
     rw [if_neg c14] at H
     exact absurd H (by simp)
/-! ### codewrightref01_Zero: function 114 -/
def codewrightref01_Zero.f (k : Nat) (l0 : List Int) : Option (Bool) := (codewrightref01_Trim.f k l0).bind fun t393 => (some ((t393.length : Int) == 0))
set_option maxHeartbeats 8000000 in
set_option maxRecDepth 100000 in
theorem codewrightref01_Zero.calls (k : Nat) (A0 : Option Addr) (c0 : Nat) (l0 : List Int) (r : Bool) (w : World) (hr0 : Kd.C (Kd.int .u32) w A0 l0.length l0) (hc0 : l0.length ≤ c0) (h : codewrightref01_Zero.f k l0 = some r) :
  Calls Try.prog 114 #[.slice A0 l0.length c0] w fun e w' => e = .returned (.bool r) ∧ Below w.heap.size w w' := by
 have HR0 := zA hr0
 have HC0 := zA hc0
 clear hr0 hc0
 have HB := zA (Below.refl w.heap.size w)
 have H : ((codewrightref01_Trim.f k l0).bind fun t393 => (some ((t393.length : Int) == 0))) = some r := h
 clear h
 replace H := Option.bind_eq_some_iff.mp H
 obtain ⟨t393, A20, H⟩ := H
 replace H : (some ((t393.length : Int) == 0)) = some r := H
 have A2 := zA A20
 clear A20
 obtain rfl := Option.some.inj H
 go_enter Try.func114, Try.ntmps114
 go_wp2_with (first | ((with_reducible refine gate_callee (f := 59) rfl ?_); refine goesL_ (some 4) rfl rfl Try.func59 (by kernel_rfl) rfl #[.slice A0 l0.length c0] rfl (by (try simp only [List.map_toArray, List.map_cons, List.map_nil]); first | done | rfl | (simp only [List.length_drop, List.length_take]; rfl)) ?_; (with_reducible refine (codewrightref01_Trim.calls k _ _ l0 t393 _ ?side1 ?side2 A2.out).mono ?_); (case side1 => exact zC (HR0.out)); (case side2 => exact HC0.out); rintro e w3 ⟨v394, rfl, ho0, hb⟩; refine ⟨_, rfl, ?_⟩; have HO395 := zA (Kd.R_lower ho0 (below_size (by exact zB HB))); replace HB := zA (below_step (by exact zB HB) hb); (try clear hb ho0); obtain ⟨Ao4, co4, eo4⟩ := Kd.R_slice HO395.out; subst eo4))
 go_ret
 exact ⟨by first | rfl | (simp [errW_none, errW_some] <;> rfl) | (simp [*, errW_none, errW_some] <;> rfl), by exact zB HB⟩
/-! ### codewrightref01_limb: function 106 -/
def codewrightref01_limb.f (l0 : List Int) (a1 : Int) : Option (Int) := if a1 < (l0.length : Int) then (if 0 ≤ a1 then (some (IntKind.u64.wrap (rd l0 a1))) else (none)) else (some 0)
set_option maxHeartbeats 8000000 in
set_option maxRecDepth 100000 in
theorem codewrightref01_limb.calls (A0 : Option Addr) (c0 : Nat) (l0 : List Int) (a1 : Int) (r : Int) (w : World) (hr0 : Kd.C (Kd.int .u32) w A0 l0.length l0) (hc0 : l0.length ≤ c0) (h : codewrightref01_limb.f l0 a1 = some r) :
  Calls Try.prog 106 #[.slice A0 l0.length c0, .int .i64 a1] w fun e w' => e = .returned (.int .u64 r) ∧ Drawn0 w w' := by
 have HR0 := zA hr0
 have HC0 := zA hc0
 clear hr0 hc0
 have H : (if a1 < (l0.length : Int) then (if 0 ≤ a1 then (some (IntKind.u64.wrap (rd l0 a1))) else (none)) else (some 0)) = some r := h
 clear h
 by_cases c3 : a1 < (l0.length : Int)
 ·
  rw [if_pos c3] at H
  have c3b0 : decide (a1 < (l0.length : Int)) = true := decide_eq_true c3
  clear c3
  by_cases c4 : 0 ≤ a1
  ·
   rw [if_pos c4] at H
   have c4b0 : decide (0 ≤ a1) = true := decide_eq_true c4
   clear c4
   obtain rfl := Option.some.inj H
   have p396 : 0 ≤ (a1 : Int) := of_decide_eq_true (by assumption)
   have q396 : a1 < (l0.length : Int) := of_decide_eq_true (by assumption)
   obtain ⟨ad396, e396, hx396_0⟩ := Kd.at_int HR0.out a1 p396 q396
   cases e396
   replace p396 := eq_true p396
   replace q396 := eq_true q396
   go_enter Try.func106, Try.ntmps106
   go_wp2
   go_ret
   exact ⟨by first | rfl | (simp; done) | (simp [*]; done), by repeat (first | exact Drawn0.refl _ | apply Drawn0.step)⟩
  ·
   rw [if_neg c4] at H
   exact absurd H (by simp)
 ·
  rw [if_neg c3] at H
  have c3b0 : decide (a1 < (l0.length : Int)) = false := decide_eq_false c3
  clear c3
  obtain rfl := Option.some.inj H
  go_enter Try.func106, Try.ntmps106
  go_wp2
  go_ret
  exact ⟨by first | rfl | (simp; done) | (simp [*]; done), by repeat (first | exact Drawn0.refl _ | apply Drawn0.step)⟩
end Go.Proofs.Ytjignpnnmfdedaa.PChannelPatterns
