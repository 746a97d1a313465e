/- A part of the print of this row, cut down to what the row uses. -/
import Derived.Test.YtjignpnnmfdedaaQChannelPatternsx0
import Derived.Test.YtjignpnnmfdedaaQChannelPatternsx8
import Derived.Test.YtjignpnnmfdedaaQChannelPatternsx9
import Derived.Test.YtjignpnnmfdedaaQChannelPatternsx10
import Derived.Test.YtjignpnnmfdedaaQChannelPatternsWSq
-- printed by a scratch copy of the print, turned (wip/tools/turn_print.py)
namespace Go.Proofs.Ytjignpnnmfdedaa.PChannelPatterns
open Go.RowKit Go.Proofs.YtjignpnnmfdedaaW.PrintWords Go.Proofs.YtjignpnnmfdedaaW.PrintLast Go.Proofs.YtjignpnnmfdedaaW.PrintMore
attribute [local go_sem] max2_int min2_int max_two min_two max_three min_three max_four min_four   -- for this text's walks alone
set_option linter.unusedVariables false
set_option linter.unusedSimpArgs false
/-! ### codewrightref02_Add: function 43 -/
def codewrightref02_Add.f (k : Nat) (a0_0 : Bool) (l0_1 : List Int) (l0_2 : List Int) (a1_0 : Bool) (l1_1 : List Int) (l1_2 : List Int) : Option (Bool × List Int × List Int) := (codewrightref02_Trim.f k a0_0 l0_1 l0_2).bind fun bt555 => ((codewrightref02_Trim.f k a1_0 l1_1 l1_2).bind fun bt562 => ((codewrightref01_Mul.f k bt555.2.1 bt562.2.2).bind fun t569 => ((codewrightref01_Mul.f k bt562.2.1 bt555.2.2).bind fun t572 => ((codewrightref01_Mul.f k bt555.2.2 bt562.2.2).bind fun t575 => (if (bt555.1 == bt562.1) = true then ((codewrightref01_Add.f k t569 t572).bind fun t578 => ((codewrightref02_Make.f k bt555.1 t578 t575).bind fun bt581 => (some (bt581.1, bt581.2.1, bt581.2.2)))) else ((codewrightref01_Cmp.f k t569 t572).bind fun t588 => (if t588 ≥ 0 then ((codewrightref01_Sub.f k t569 t572).bind fun t589 => ((codewrightref02_Make.f k bt555.1 t589 t575).bind fun bt592 => (some (bt592.1, bt592.2.1, bt592.2.2)))) else ((codewrightref01_Sub.f k t572 t569).bind fun t599 => ((codewrightref02_Make.f k bt562.1 t599 t575).bind fun bt602 => (some (bt602.1, bt602.2.1, bt602.2.2)))))))))))
def codewrightref02_Add.T7 : Bool × List (List Nat × List Nat) := (true, [([], []), ([0], [0]), ([], []), ([], []), ([2, 3], [2, 3]), ([], []), ([1, 4, 5, 4], [1, 4, 5]), ([6, 6, 0, 1, 2, 3, 4, 5, 6], [6])])
def codewrightref02_Add.B7 : List Nat := [0, 1, 0, 0, 12, 0, 63, 127]
theorem codewrightref02_Add.tab7 : rtab .any (opsOf Try.f43 7) = codewrightref02_Add.T7 := by kernel_rfl
theorem codewrightref02_Add.bits7 : waitsOk codewrightref02_Add.T7.2 codewrightref02_Add.B7 = true := by kernel_rfl
def codewrightref02_Add.T9 : Bool × List (List Nat × List Nat) := (true, [([], []), ([0], [0]), ([], []), ([], []), ([2, 3], [2, 3]), ([], []), ([1, 4, 5, 4], [1, 4, 5]), ([6, 6, 0, 1, 2, 3, 4, 5, 6], [6])])
def codewrightref02_Add.B9 : List Nat := [0, 1, 0, 0, 12, 0, 63, 127]
theorem codewrightref02_Add.tab9 : rtab .any (opsOf Try.f43 9) = codewrightref02_Add.T9 := by kernel_rfl
theorem codewrightref02_Add.bits9 : waitsOk codewrightref02_Add.T9.2 codewrightref02_Add.B9 = true := by kernel_rfl
def codewrightref02_Add.T10 : Bool × List (List Nat × List Nat) := (true, [([], []), ([0], [0]), ([], []), ([], []), ([2, 3], [2, 3]), ([], []), ([1, 4, 5, 4], [1, 4, 5]), ([6, 6, 0, 1, 2, 3, 4, 5, 6], [6])])
def codewrightref02_Add.B10 : List Nat := [0, 1, 0, 0, 12, 0, 63, 127]
theorem codewrightref02_Add.tab10 : rtab .any (opsOf Try.f43 10) = codewrightref02_Add.T10 := by kernel_rfl
theorem codewrightref02_Add.bits10 : waitsOk codewrightref02_Add.T10.2 codewrightref02_Add.B10 = true := by kernel_rfl
set_option maxHeartbeats 8000000 in
set_option maxRecDepth 100000 in
theorem codewrightref02_Add.calls (k : Nat) (a0_0 : Bool) (A0_1 : Option Addr) (c0_1 : Nat) (l0_1 : List Int) (A0_2 : Option Addr) (c0_2 : Nat) (l0_2 : List Int) (a1_0 : Bool) (A1_1 : Option Addr) (c1_1 : Nat) (l1_1 : List Int) (A1_2 : Option Addr) (c1_2 : Nat) (l1_2 : List Int) (r1 : Bool) (r2 : List Int) (r3 : List Int) (w : World) (hr0_1 : Kd.C (Kd.int .u32) w A0_1 l0_1.length l0_1) (hc0_1 : l0_1.length ≤ c0_1) (hr0_2 : Kd.C (Kd.int .u32) w A0_2 l0_2.length l0_2) (hc0_2 : l0_2.length ≤ c0_2) (hr1_1 : Kd.C (Kd.int .u32) w A1_1 l1_1.length l1_1) (hc1_1 : l1_1.length ≤ c1_1) (hr1_2 : Kd.C (Kd.int .u32) w A1_2 l1_2.length l1_2) (hc1_2 : l1_2.length ≤ c1_2) (h : codewrightref02_Add.f k a0_0 l0_1 l0_2 a1_0 l1_1 l1_2 = some (r1, r2, r3)) :
  Calls Try.prog 43 #[.agg #[.bool a0_0, .slice A0_1 l0_1.length c0_1, .slice A0_2 l0_2.length c0_2], .agg #[.bool a1_0, .slice A1_1 l1_1.length c1_1, .slice A1_2 l1_2.length c1_2]] w fun e w' => ∃ v1_ v2_ : Value, e = .returned (.agg #[.bool r1, v1_, v2_]) ∧ Kd.R (Kd.int .u32) 79 w' w.heap.size (fun k_ => some k_ ≠ (v2_ : Value).ownBlock) v1_ r2 ∧ Kd.R (Kd.int .u32) 79 w' w.heap.size (fun k_ => some k_ ≠ (v1_ : Value).ownBlock) v2_ r3 ∧ Below w.heap.size w w' := by
 have hu52 := Try.underlying52
 have HR0_1 := zA hr0_1
 have HC0_1 := zA hc0_1
 clear hr0_1 hc0_1
 have HR0_2 := zA hr0_2
 have HC0_2 := zA hc0_2
 clear hr0_2 hc0_2
 have HR1_1 := zA hr1_1
 have HC1_1 := zA hc1_1
 clear hr1_1 hc1_1
 have HR1_2 := zA hr1_2
 have HC1_2 := zA hc1_2
 clear hr1_2 hc1_2
 have HB := zA (Below.refl w.heap.size w)
 have H : ((codewrightref02_Trim.f k a0_0 l0_1 l0_2).bind fun bt555 => ((codewrightref02_Trim.f k a1_0 l1_1 l1_2).bind fun bt562 => ((codewrightref01_Mul.f k bt555.2.1 bt562.2.2).bind fun t569 => ((codewrightref01_Mul.f k bt562.2.1 bt555.2.2).bind fun t572 => ((codewrightref01_Mul.f k bt555.2.2 bt562.2.2).bind fun t575 => (if (bt555.1 == bt562.1) = true then ((codewrightref01_Add.f k t569 t572).bind fun t578 => ((codewrightref02_Make.f k bt555.1 t578 t575).bind fun bt581 => (some (bt581.1, bt581.2.1, bt581.2.2)))) else ((codewrightref01_Cmp.f k t569 t572).bind fun t588 => (if t588 ≥ 0 then ((codewrightref01_Sub.f k t569 t572).bind fun t589 => ((codewrightref02_Make.f k bt555.1 t589 t575).bind fun bt592 => (some (bt592.1, bt592.2.1, bt592.2.2)))) else ((codewrightref01_Sub.f k t572 t569).bind fun t599 => ((codewrightref02_Make.f k bt562.1 t599 t575).bind fun bt602 => (some (bt602.1, bt602.2.1, bt602.2.2)))))))))))) = some (r1, r2, r3) := h
 clear h
 replace H := Option.bind_eq_some_iff.mp H
 obtain ⟨⟨t555, t556, t559⟩, A30, H⟩ := H
 replace H : ((codewrightref02_Trim.f k a1_0 l1_1 l1_2).bind fun bt562 => ((codewrightref01_Mul.f k t556 bt562.2.2).bind fun t569 => ((codewrightref01_Mul.f k bt562.2.1 t559).bind fun t572 => ((codewrightref01_Mul.f k t559 bt562.2.2).bind fun t575 => (if (t555 == bt562.1) = true then ((codewrightref01_Add.f k t569 t572).bind fun t578 => ((codewrightref02_Make.f k t555 t578 t575).bind fun bt581 => (some (bt581.1, bt581.2.1, bt581.2.2)))) else ((codewrightref01_Cmp.f k t569 t572).bind fun t588 => (if t588 ≥ 0 then ((codewrightref01_Sub.f k t569 t572).bind fun t589 => ((codewrightref02_Make.f k t555 t589 t575).bind fun bt592 => (some (bt592.1, bt592.2.1, bt592.2.2)))) else ((codewrightref01_Sub.f k t572 t569).bind fun t599 => ((codewrightref02_Make.f k bt562.1 t599 t575).bind fun bt602 => (some (bt602.1, bt602.2.1, bt602.2.2))))))))))) = some (r1, r2, r3) := H
 have A3 := zA A30
 clear A30
 replace H := Option.bind_eq_some_iff.mp H
 obtain ⟨⟨t562, t563, t566⟩, A40, H⟩ := H
 replace H : ((codewrightref01_Mul.f k t556 t566).bind fun t569 => ((codewrightref01_Mul.f k t563 t559).bind fun t572 => ((codewrightref01_Mul.f k t559 t566).bind fun t575 => (if (t555 == t562) = true then ((codewrightref01_Add.f k t569 t572).bind fun t578 => ((codewrightref02_Make.f k t555 t578 t575).bind fun bt581 => (some (bt581.1, bt581.2.1, bt581.2.2)))) else ((codewrightref01_Cmp.f k t569 t572).bind fun t588 => (if t588 ≥ 0 then ((codewrightref01_Sub.f k t569 t572).bind fun t589 => ((codewrightref02_Make.f k t555 t589 t575).bind fun bt592 => (some (bt592.1, bt592.2.1, bt592.2.2)))) else ((codewrightref01_Sub.f k t572 t569).bind fun t599 => ((codewrightref02_Make.f k t562 t599 t575).bind fun bt602 => (some (bt602.1, bt602.2.1, bt602.2.2)))))))))) = some (r1, r2, r3) := H
 have A4 := zA A40
 clear A40
 replace H := Option.bind_eq_some_iff.mp H
 obtain ⟨t569, A50, H⟩ := H
 replace H : ((codewrightref01_Mul.f k t563 t559).bind fun t572 => ((codewrightref01_Mul.f k t559 t566).bind fun t575 => (if (t555 == t562) = true then ((codewrightref01_Add.f k t569 t572).bind fun t578 => ((codewrightref02_Make.f k t555 t578 t575).bind fun bt581 => (some (bt581.1, bt581.2.1, bt581.2.2)))) else ((codewrightref01_Cmp.f k t569 t572).bind fun t588 => (if t588 ≥ 0 then ((codewrightref01_Sub.f k t569 t572).bind fun t589 => ((codewrightref02_Make.f k t555 t589 t575).bind fun bt592 => (some (bt592.1, bt592.2.1, bt592.2.2)))) else ((codewrightref01_Sub.f k t572 t569).bind fun t599 => ((codewrightref02_Make.f k t562 t599 t575).bind fun bt602 => (some (bt602.1, bt602.2.1, bt602.2.2))))))))) = some (r1, r2, r3) := H
 have A5 := zA A50
 clear A50
 replace H := Option.bind_eq_some_iff.mp H
 obtain ⟨t572, A60, H⟩ := H
 replace H : ((codewrightref01_Mul.f k t559 t566).bind fun t575 => (if (t555 == t562) = true then ((codewrightref01_Add.f k t569 t572).bind fun t578 => ((codewrightref02_Make.f k t555 t578 t575).bind fun bt581 => (some (bt581.1, bt581.2.1, bt581.2.2)))) else ((codewrightref01_Cmp.f k t569 t572).bind fun t588 => (if t588 ≥ 0 then ((codewrightref01_Sub.f k t569 t572).bind fun t589 => ((codewrightref02_Make.f k t555 t589 t575).bind fun bt592 => (some (bt592.1, bt592.2.1, bt592.2.2)))) else ((codewrightref01_Sub.f k t572 t569).bind fun t599 => ((codewrightref02_Make.f k t562 t599 t575).bind fun bt602 => (some (bt602.1, bt602.2.1, bt602.2.2)))))))) = some (r1, r2, r3) := H
 have A6 := zA A60
 clear A60
 replace H := Option.bind_eq_some_iff.mp H
 obtain ⟨t575, A70, H⟩ := H
 replace H : (if (t555 == t562) = true then ((codewrightref01_Add.f k t569 t572).bind fun t578 => ((codewrightref02_Make.f k t555 t578 t575).bind fun bt581 => (some (bt581.1, bt581.2.1, bt581.2.2)))) else ((codewrightref01_Cmp.f k t569 t572).bind fun t588 => (if t588 ≥ 0 then ((codewrightref01_Sub.f k t569 t572).bind fun t589 => ((codewrightref02_Make.f k t555 t589 t575).bind fun bt592 => (some (bt592.1, bt592.2.1, bt592.2.2)))) else ((codewrightref01_Sub.f k t572 t569).bind fun t599 => ((codewrightref02_Make.f k t562 t599 t575).bind fun bt602 => (some (bt602.1, bt602.2.1, bt602.2.2))))))) = some (r1, r2, r3) := H
 have A7 := zA A70
 clear A70
 by_cases c8 : (t555 == t562) = true
 ·
  rw [if_pos c8] at H
  have c8b0 : (t555 == t562) = true := c8
  (try (have c8b1 : decide (t555 = t562) = true := by simpa using c8))
  (try (have c8b2 : (t555 == t562) = true := by simpa using c8))
  clear c8
  replace H := Option.bind_eq_some_iff.mp H
  obtain ⟨t578, A90, H⟩ := H
  replace H : ((codewrightref02_Make.f k t555 t578 t575).bind fun bt581 => (some (bt581.1, bt581.2.1, bt581.2.2))) = some (r1, r2, r3) := H
  have A9 := zA A90
  clear A90
  replace H := Option.bind_eq_some_iff.mp H
  obtain ⟨⟨t581, t582, t585⟩, A100, H⟩ := H
  replace H : (some (t581, t582, t585)) = some (r1, r2, r3) := H
  have A10 := zA A100
  clear A100
  simp only [Option.some.injEq, Prod.mk.injEq] at H
  obtain ⟨rfl, rfl, rfl⟩ := H
  go_enter Try.func43, Try.ntmps43
  try go_wp2_with (first | ((with_reducible refine gate_dst (N := 2) rfl ?_); refine box_event ?hg (N := 2) ?hd (cs := #[.bool a0_0, .slice A0_1 l0_1.length c0_1, .slice A0_2 l0_2.length c0_2]) (t := 52) ?hr ?_; (case hd => rfl); (case hg => rfl); (case hr => first | (go_simp; done) | (go_simp; rfl)); intro gb552 hg w11 hbox hb; have BK552 := zA (hbox); have GW552 := zA ((by rw [hg]; exact (below_size (by exact zB HB)) : w.heap.size ≤ gb552)); have GE552 := zA ((by rw [hg]; exact (below_size (by exact zB HB)) : w.heap.size ≤ gb552)); replace HB := zA (below_step (by exact zB HB) hb); clear hb hbox hg) | ((with_reducible refine gate_dst (N := 3) rfl ?_); refine box_event ?hg (N := 3) ?hd (cs := #[.bool a1_0, .slice A1_1 l1_1.length c1_1, .slice A1_2 l1_2.length c1_2]) (t := 52) ?hr ?_; (case hd => rfl); (case hg => rfl); (case hr => first | (go_simp; done) | (go_simp; rfl)); intro gb553 hg w12 hbox hb; have BK553 := zA (hbox); have GW553 := zA ((by rw [hg]; exact (below_size (by repeat (first | (with_reducible first | exact HB.out | apply below_alloc | apply pw_below_drewN | apply below_drew1 | refine below_set ?_ GE552.out) | exact HB.out))) : w.heap.size ≤ gb553)); have GE553 := zA ((by rw [hg]; exact (below_size (by repeat (first | (with_reducible first | exact HB.out | apply below_alloc | apply pw_below_drewN | apply below_drew1 | refine below_set ?_ GE552.out) | exact HB.out))) : w.heap.size ≤ gb553)); replace HB := zA (below_step (by repeat (first | (with_reducible first | exact HB.out | apply below_alloc | apply pw_below_drewN | apply below_drew1 | refine below_set ?_ GE552.out) | exact HB.out)) hb); have NB552_553 := zA ((by rw [hg]; exact Nat.ne_of_lt (blk_lt (g := gb552) (o := .cells #[.bool a0_0, .slice A0_1 l0_1.length c0_1, .slice A0_2 l0_2.length c0_2] 52 (0, 0)) (by exact zK BK552)) : gb552 ≠ gb553)); have NB553_552 := zA ((by rw [hg]; exact Nat.ne_of_gt (blk_lt (g := gb552) (o := .cells #[.bool a0_0, .slice A0_1 l0_1.length c0_1, .slice A0_2 l0_2.length c0_2] 52 (0, 0)) (by exact zK BK552)) : gb553 ≠ gb552)); replace BK552 := zA (blk_below (g := gb552) (o := .cells #[.bool a0_0, .slice A0_1 l0_1.length c0_1, .slice A0_2 l0_2.length c0_2] 52 (0, 0)) (by exact zK BK552) hb); clear hb hbox hg) | ((with_reducible refine gate_dst (N := 4) rfl ?_); refine box_event ?hg (N := 4) ?hd (cs := #[.bool false, .slice none 0 0, .slice none 0 0]) (t := 52) ?hr ?_; (case hd => rfl); (case hg => rfl); (case hr => first | (go_simp; done) | (go_simp; rfl)); intro gb554 hg w13 hbox hb; have BK554 := zA (hbox); have GW554 := zA ((by rw [hg]; exact (below_size (by repeat (first | (with_reducible first | exact HB.out | apply below_alloc | apply pw_below_drewN | apply below_drew1 | refine below_set ?_ GE552.out | refine below_set ?_ GE553.out) | exact HB.out))) : w.heap.size ≤ gb554)); have GE554 := zA ((by rw [hg]; exact (below_size (by repeat (first | (with_reducible first | exact HB.out | apply below_alloc | apply pw_below_drewN | apply below_drew1 | refine below_set ?_ GE552.out | refine below_set ?_ GE553.out) | exact HB.out))) : w.heap.size ≤ gb554)); replace HB := zA (below_step (by repeat (first | (with_reducible first | exact HB.out | apply below_alloc | apply pw_below_drewN | apply below_drew1 | refine below_set ?_ GE552.out | refine below_set ?_ GE553.out) | exact HB.out)) hb); have NB552_554 := zA ((by rw [hg]; exact Nat.ne_of_lt (blk_lt (g := gb552) (o := .cells #[.bool a0_0, .slice A0_1 l0_1.length c0_1, .slice A0_2 l0_2.length c0_2] 52 (0, 0)) (by exact zK BK552)) : gb552 ≠ gb554)); have NB554_552 := zA ((by rw [hg]; exact Nat.ne_of_gt (blk_lt (g := gb552) (o := .cells #[.bool a0_0, .slice A0_1 l0_1.length c0_1, .slice A0_2 l0_2.length c0_2] 52 (0, 0)) (by exact zK BK552)) : gb554 ≠ gb552)); replace BK552 := zA (blk_below (g := gb552) (o := .cells #[.bool a0_0, .slice A0_1 l0_1.length c0_1, .slice A0_2 l0_2.length c0_2] 52 (0, 0)) (by exact zK BK552) hb); have NB553_554 := zA ((by rw [hg]; exact Nat.ne_of_lt (blk_lt (g := gb553) (o := .cells #[.bool a1_0, .slice A1_1 l1_1.length c1_1, .slice A1_2 l1_2.length c1_2] 52 (0, 0)) (by exact zK BK553)) : gb553 ≠ gb554)); have NB554_553 := zA ((by rw [hg]; exact Nat.ne_of_gt (blk_lt (g := gb553) (o := .cells #[.bool a1_0, .slice A1_1 l1_1.length c1_1, .slice A1_2 l1_2.length c1_2] 52 (0, 0)) (by exact zK BK553)) : gb554 ≠ gb553)); replace BK553 := zA (blk_below (g := gb553) (o := .cells #[.bool a1_0, .slice A1_1 l1_1.length c1_1, .slice A1_2 l1_2.length c1_2] 52 (0, 0)) (by exact zK BK553) hb); clear hb hbox hg; have hnb14 := NB552_553.out; have hnc14 := NB553_552.out; have hnb15 := NB552_554.out; have hnc15 := NB554_552.out; have hcz16_0 : w13.cell? ⟨gb552, 0, none⟩ = some (.bool a0_0) := (blk_cell BK552.out 0).trans rfl; have hcz16_1 : w13.cell? ⟨gb552, 1, none⟩ = some (.slice A0_1 l0_1.length c0_1) := (blk_cell BK552.out 1).trans rfl; have hcz16_2 : w13.cell? ⟨gb552, 2, none⟩ = some (.slice A0_2 l0_2.length c0_2) := (blk_cell BK552.out 2).trans rfl; have hfz16_0 := blk_frozen BK552.out 0; have hfz16_1 := blk_frozen BK552.out 1; have hfz16_2 := blk_frozen BK552.out 2) | ((with_reducible refine gate_callee (f := 83) rfl ?_); refine goesL_ (some 9) rfl rfl Try.func83 (by kernel_rfl) rfl #[.agg #[.bool a0_0, .slice A0_1 l0_1.length c0_1, .slice A0_2 l0_2.length c0_2]] rfl (by (try simp only [List.map_toArray, List.map_cons, List.map_nil]); first | done | rfl | (simp only [List.length_drop, List.length_take]; rfl)) ?_; (with_reducible refine (codewrightref02_Trim.calls k a0_0 _ _ l0_1 _ _ l0_2 t555 t556 t559 _ ?side1 ?side2 ?side3 ?side4 A3.out).mono ?_); (case side1 => exact zC ((Kd.C_below HR0_1.out HB.out))); (case side2 => exact HC0_1.out); (case side3 => exact zC ((Kd.C_below HR0_2.out HB.out))); (case side4 => exact HC0_2.out); rintro e w17 ⟨v557, v560, rfl, ho0, ho1, hb⟩; refine ⟨_, rfl, ?_⟩; have HO558 := zA (Kd.R_lower ho0 (below_size (by repeat (first | (with_reducible first | exact HB.out | apply below_alloc | apply pw_below_drewN | apply below_drew1 | refine below_set ?_ GE552.out | refine below_set ?_ GE553.out | refine below_set ?_ GE554.out) | exact HB.out)))); have HO561 := zA (Kd.R_lower ho1 (below_size (by repeat (first | (with_reducible first | exact HB.out | apply below_alloc | apply pw_below_drewN | apply below_drew1 | refine below_set ?_ GE552.out | refine below_set ?_ GE553.out | refine below_set ?_ GE554.out) | exact HB.out)))); replace BK552 := zA (blk_below (g := gb552) (o := .cells #[.bool a0_0, .slice A0_1 l0_1.length c0_1, .slice A0_2 l0_2.length c0_2] 52 (0, 0)) (by exact zK BK552) hb); replace BK553 := zA (blk_below (g := gb553) (o := .cells #[.bool a1_0, .slice A1_1 l1_1.length c1_1, .slice A1_2 l1_2.length c1_2] 52 (0, 0)) (by exact zK BK553) hb); replace BK554 := zA (blk_below (g := gb554) (o := .cells #[.bool false, .slice none 0 0, .slice none 0 0] 52 (0, 0)) (by exact zK BK554) hb); replace HB := zA (below_step (by repeat (first | (with_reducible first | exact HB.out | apply below_alloc | apply pw_below_drewN | apply below_drew1 | refine below_set ?_ GE552.out | refine below_set ?_ GE553.out | refine below_set ?_ GE554.out) | exact HB.out)) hb); (try clear hb ho0 ho1); have hcz18_0 : w17.cell? ⟨gb552, 0, none⟩ = some (.bool a0_0) := (blk_cell BK552.out 0).trans rfl; have hcz18_1 : w17.cell? ⟨gb552, 1, none⟩ = some (.slice A0_1 l0_1.length c0_1) := (blk_cell BK552.out 1).trans rfl; have hcz18_2 : w17.cell? ⟨gb552, 2, none⟩ = some (.slice A0_2 l0_2.length c0_2) := (blk_cell BK552.out 2).trans rfl; have hfz18_0 := blk_frozen BK552.out 0; have hfz18_1 := blk_frozen BK552.out 1; have hfz18_2 := blk_frozen BK552.out 2; obtain ⟨Ao19, co19, eo19⟩ := Kd.R_slice HO558.out; subst eo19; obtain ⟨Ao20, co20, eo20⟩ := Kd.R_slice HO561.out; subst eo20; have hnb21 := NB553_554.out; have hnc21 := NB554_553.out; have hcz22_0 : w17.cell? ⟨gb553, 0, none⟩ = some (.bool a1_0) := (blk_cell BK553.out 0).trans rfl; have hcz22_1 : w17.cell? ⟨gb553, 1, none⟩ = some (.slice A1_1 l1_1.length c1_1) := (blk_cell BK553.out 1).trans rfl; have hcz22_2 : w17.cell? ⟨gb553, 2, none⟩ = some (.slice A1_2 l1_2.length c1_2) := (blk_cell BK553.out 2).trans rfl; have hfz22_0 := blk_frozen BK553.out 0; have hfz22_1 := blk_frozen BK553.out 1; have hfz22_2 := blk_frozen BK553.out 2) | ((with_reducible refine gate_callee (f := 83) rfl ?_); refine goesL_ (some 11) rfl rfl Try.func83 (by kernel_rfl) rfl #[.agg #[.bool a1_0, .slice A1_1 l1_1.length c1_1, .slice A1_2 l1_2.length c1_2]] rfl (by (try simp only [List.map_toArray, List.map_cons, List.map_nil]); first | done | rfl | (simp only [List.length_drop, List.length_take]; rfl)) ?_; (with_reducible refine (codewrightref02_Trim.calls k a1_0 _ _ l1_1 _ _ l1_2 t562 t563 t566 _ ?side1 ?side2 ?side3 ?side4 A4.out).mono ?_); (case side1 => exact Kd.C_below HR1_1.out (by repeat (first | (with_reducible first | exact HB.out | apply below_alloc | apply pw_below_drewN | apply below_drew1 | refine below_set ?_ GE552.out | refine below_set ?_ GE553.out | refine below_set ?_ GE554.out) | exact HB.out))); (case side2 => exact HC1_1.out); (case side3 => exact Kd.C_below HR1_2.out (by repeat (first | (with_reducible first | exact HB.out | apply below_alloc | apply pw_below_drewN | apply below_drew1 | refine below_set ?_ GE552.out | refine below_set ?_ GE553.out | refine below_set ?_ GE554.out) | exact HB.out))); (case side4 => exact HC1_2.out); rintro e w23 ⟨v564, v567, rfl, ho0, ho1, hb⟩; refine ⟨_, rfl, ?_⟩; have HO565 := zA (Kd.R_lower (Kd.R_new' (Kd.R_new' ho0 (Kd.R_lt (by (with_reducible repeat (first | apply Kd.R_alloc | apply Kd.R_drewN | apply Kd.R_drew)); exact (Kd.R_mono (Kd.R_far (p := ⟨gb552, 2, none⟩) (Kd.R_far (p := ⟨gb552, 1, none⟩) (Kd.R_far (p := ⟨gb552, 0, none⟩) (Kd.R_types HO558.out BK552.out (by decide)) (fun _ hk => hk.2) (.bool t555)) (fun _ hk => hk.2) (.slice Ao19 t556.length co19)) (fun _ hk => hk.2) (.slice Ao20 t559.length co20)) (fun _ h_ => h_.1))))) (Kd.R_lt (by (with_reducible repeat (first | apply Kd.R_alloc | apply Kd.R_drewN | apply Kd.R_drew)); exact (Kd.R_mono (Kd.R_far (p := ⟨gb552, 2, none⟩) (Kd.R_far (p := ⟨gb552, 1, none⟩) (Kd.R_far (p := ⟨gb552, 0, none⟩) (Kd.R_types HO561.out BK552.out (by decide)) (fun _ hk => hk.2) (.bool t555)) (fun _ hk => hk.2) (.slice Ao19 t556.length co19)) (fun _ hk => hk.2) (.slice Ao20 t559.length co20)) (fun _ h_ => h_.1))))) (below_size (by repeat (first | (with_reducible first | exact HB.out | apply below_alloc | apply pw_below_drewN | apply below_drew1 | refine below_set ?_ GE552.out | refine below_set ?_ GE553.out | refine below_set ?_ GE554.out) | exact HB.out)))); have HO568 := zA (Kd.R_lower (Kd.R_new' (Kd.R_new' ho1 (Kd.R_lt (by (with_reducible repeat (first | apply Kd.R_alloc | apply Kd.R_drewN | apply Kd.R_drew)); exact (Kd.R_mono (Kd.R_far (p := ⟨gb552, 2, none⟩) (Kd.R_far (p := ⟨gb552, 1, none⟩) (Kd.R_far (p := ⟨gb552, 0, none⟩) (Kd.R_types HO558.out BK552.out (by decide)) (fun _ hk => hk.2) (.bool t555)) (fun _ hk => hk.2) (.slice Ao19 t556.length co19)) (fun _ hk => hk.2) (.slice Ao20 t559.length co20)) (fun _ h_ => h_.1))))) (Kd.R_lt (by (with_reducible repeat (first | apply Kd.R_alloc | apply Kd.R_drewN | apply Kd.R_drew)); exact (Kd.R_mono (Kd.R_far (p := ⟨gb552, 2, none⟩) (Kd.R_far (p := ⟨gb552, 1, none⟩) (Kd.R_far (p := ⟨gb552, 0, none⟩) (Kd.R_types HO561.out BK552.out (by decide)) (fun _ hk => hk.2) (.bool t555)) (fun _ hk => hk.2) (.slice Ao19 t556.length co19)) (fun _ hk => hk.2) (.slice Ao20 t559.length co20)) (fun _ h_ => h_.1))))) (below_size (by repeat (first | (with_reducible first | exact HB.out | apply below_alloc | apply pw_below_drewN | apply below_drew1 | refine below_set ?_ GE552.out | refine below_set ?_ GE553.out | refine below_set ?_ GE554.out) | exact HB.out)))); replace HO558 := zA (Kd.R_mono (Kd.R_told (Kd.R_told (Kd.R_old (by (with_reducible repeat (first | apply Kd.R_alloc | apply Kd.R_drewN | apply Kd.R_drew)); exact (Kd.R_mono (Kd.R_far (p := ⟨gb552, 2, none⟩) (Kd.R_far (p := ⟨gb552, 1, none⟩) (Kd.R_far (p := ⟨gb552, 0, none⟩) (Kd.R_types HO558.out BK552.out (by decide)) (fun _ hk => hk.2) (.bool t555)) (fun _ hk => hk.2) (.slice Ao19 t556.length co19)) (fun _ hk => hk.2) (.slice Ao20 t559.length co20)) (fun _ h_ => h_.1))) hb) (Kd.R_base ho0)) (Kd.R_base ho1)) (fun _ h_ => h_.1)); replace HO561 := zA (Kd.R_mono (Kd.R_told (Kd.R_told (Kd.R_old (by (with_reducible repeat (first | apply Kd.R_alloc | apply Kd.R_drewN | apply Kd.R_drew)); exact (Kd.R_mono (Kd.R_far (p := ⟨gb552, 2, none⟩) (Kd.R_far (p := ⟨gb552, 1, none⟩) (Kd.R_far (p := ⟨gb552, 0, none⟩) (Kd.R_types HO561.out BK552.out (by decide)) (fun _ hk => hk.2) (.bool t555)) (fun _ hk => hk.2) (.slice Ao19 t556.length co19)) (fun _ hk => hk.2) (.slice Ao20 t559.length co20)) (fun _ h_ => h_.1))) hb) (Kd.R_base ho0)) (Kd.R_base ho1)) (fun _ h_ => h_.1)); replace BK552 := zA (blk_below (g := gb552) (o := .cells #[.bool t555, .slice Ao19 t556.length co19, .slice Ao20 t559.length co20] 52 (0, 0)) (by (with_reducible repeat (first | refine blk_drewN ?_ _ | refine blk_drew ?_ | refine blk_alloc ?_ _)); refine blk_put (cs := #[.bool t555, .slice Ao19 t556.length co19, .slice A0_2 l0_2.length c0_2]) ?_ 2 _ rfl; (with_reducible repeat (first | refine blk_drewN ?_ _ | refine blk_drew ?_ | refine blk_alloc ?_ _)); refine blk_put (cs := #[.bool t555, .slice A0_1 l0_1.length c0_1, .slice A0_2 l0_2.length c0_2]) ?_ 1 _ rfl; (with_reducible repeat (first | refine blk_drewN ?_ _ | refine blk_drew ?_ | refine blk_alloc ?_ _)); refine blk_put (cs := #[.bool a0_0, .slice A0_1 l0_1.length c0_1, .slice A0_2 l0_2.length c0_2]) ?_ 0 _ rfl; exact zK BK552) hb); replace BK553 := zA (blk_below (g := gb553) (o := .cells #[.bool a1_0, .slice A1_1 l1_1.length c1_1, .slice A1_2 l1_2.length c1_2] 52 (0, 0)) (by (with_reducible repeat (first | refine blk_drewN ?_ _ | refine blk_drew ?_ | refine blk_alloc ?_ _)); refine blk_far ?_ NB553_552.out _; (with_reducible repeat (first | refine blk_drewN ?_ _ | refine blk_drew ?_ | refine blk_alloc ?_ _)); refine blk_far ?_ NB553_552.out _; (with_reducible repeat (first | refine blk_drewN ?_ _ | refine blk_drew ?_ | refine blk_alloc ?_ _)); refine blk_far ?_ NB553_552.out _; exact zK BK553) hb); replace BK554 := zA (blk_below (g := gb554) (o := .cells #[.bool false, .slice none 0 0, .slice none 0 0] 52 (0, 0)) (by (with_reducible repeat (first | refine blk_drewN ?_ _ | refine blk_drew ?_ | refine blk_alloc ?_ _)); refine blk_far ?_ NB554_552.out _; (with_reducible repeat (first | refine blk_drewN ?_ _ | refine blk_drew ?_ | refine blk_alloc ?_ _)); refine blk_far ?_ NB554_552.out _; (with_reducible repeat (first | refine blk_drewN ?_ _ | refine blk_drew ?_ | refine blk_alloc ?_ _)); refine blk_far ?_ NB554_552.out _; exact zK BK554) hb); replace HB := zA (below_step (by repeat (first | (with_reducible first | exact HB.out | apply below_alloc | apply pw_below_drewN | apply below_drew1 | refine below_set ?_ GE552.out | refine below_set ?_ GE553.out | refine below_set ?_ GE554.out) | exact HB.out)) hb); (try clear hb ho0 ho1); have hcz24_0 : w23.cell? ⟨gb553, 0, none⟩ = some (.bool a1_0) := (blk_cell BK553.out 0).trans rfl; have hcz24_1 : w23.cell? ⟨gb553, 1, none⟩ = some (.slice A1_1 l1_1.length c1_1) := (blk_cell BK553.out 1).trans rfl; have hcz24_2 : w23.cell? ⟨gb553, 2, none⟩ = some (.slice A1_2 l1_2.length c1_2) := (blk_cell BK553.out 2).trans rfl; have hfz24_0 := blk_frozen BK553.out 0; have hfz24_1 := blk_frozen BK553.out 1; have hfz24_2 := blk_frozen BK553.out 2; obtain ⟨Ao25, co25, eo25⟩ := Kd.R_slice HO565.out; subst eo25; obtain ⟨Ao26, co26, eo26⟩ := Kd.R_slice HO568.out; subst eo26; have hcz27_0 : w23.cell? ⟨gb552, 0, none⟩ = some (.bool t555) := (blk_cell BK552.out 0).trans rfl; have hcz27_1 : w23.cell? ⟨gb552, 1, none⟩ = some (.slice Ao19 t556.length co19) := (blk_cell BK552.out 1).trans rfl; have hcz27_2 : w23.cell? ⟨gb552, 2, none⟩ = some (.slice Ao20 t559.length co20) := (blk_cell BK552.out 2).trans rfl; have hfz27_0 := blk_frozen BK552.out 0; have hfz27_1 := blk_frozen BK552.out 1; have hfz27_2 := blk_frozen BK552.out 2) | ((with_reducible refine gate_callee (f := 47) rfl ?_); refine goesL_ (some 16) rfl rfl Try.func47 (by kernel_rfl) rfl #[.slice Ao19 t556.length co19, .slice Ao26 t566.length co26] rfl (by (try simp only [List.map_toArray, List.map_cons, List.map_nil]); first | done | rfl | (simp only [List.length_drop, List.length_take]; rfl)) ?_; (with_reducible refine (codewrightref01_Mul.calls k _ _ t556 _ _ t566 t569 _ ?side1 ?side2 ?side3 ?side4 A5.out).mono ?_); (case side1 => refine (Kd.R_reads' (e := 79) (base := w.heap.size) (ok := fun k_ => ((some k_ ≠ (.slice Ao20 t559.length co20 : Value).ownBlock ∧ some k_ ≠ (.slice Ao25 t563.length co25 : Value).ownBlock) ∧ some k_ ≠ (.slice Ao26 t566.length co26 : Value).ownBlock)) (n := t556.length) (c := co19) ?_).2.2; exact (by (with_reducible repeat (first | apply Kd.R_alloc | apply Kd.R_drewN | apply Kd.R_drew)); exact (Kd.R_mono (Kd.R_far (p := ⟨gb553, 2, none⟩) (Kd.R_far (p := ⟨gb553, 1, none⟩) (Kd.R_far (p := ⟨gb553, 0, none⟩) (Kd.R_types HO558.out BK553.out (by decide)) (fun _ hk => hk.2) (.bool t562)) (fun _ hk => hk.2) (.slice Ao25 t563.length co25)) (fun _ hk => hk.2) (.slice Ao26 t566.length co26)) (fun _ h_ => h_.1)))); (case side2 => exact (Kd.R_reads' HO558.out).2.1); (case side3 => refine (Kd.R_reads' (e := 79) (base := w.heap.size) (ok := fun k_ => ((some k_ ≠ (.slice Ao25 t563.length co25 : Value).ownBlock ∧ some k_ ≠ (.slice Ao19 t556.length co19 : Value).ownBlock) ∧ some k_ ≠ (.slice Ao20 t559.length co20 : Value).ownBlock)) (n := t566.length) (c := co26) ?_).2.2; exact (by (with_reducible repeat (first | apply Kd.R_alloc | apply Kd.R_drewN | apply Kd.R_drew)); exact (Kd.R_mono (Kd.R_far (p := ⟨gb553, 2, none⟩) (Kd.R_far (p := ⟨gb553, 1, none⟩) (Kd.R_far (p := ⟨gb553, 0, none⟩) (Kd.R_types HO568.out BK553.out (by decide)) (fun _ hk => hk.2) (.bool t562)) (fun _ hk => hk.2) (.slice Ao25 t563.length co25)) (fun _ hk => hk.2) (.slice Ao26 t566.length co26)) (fun _ h_ => h_.1)))); (case side4 => exact (Kd.R_reads' HO568.out).2.1); rintro e w28 ⟨v570, rfl, ho0, hb⟩; refine ⟨_, rfl, ?_⟩; have HO571 := zA (Kd.R_lower (Kd.R_new' (Kd.R_new' (Kd.R_new' (Kd.R_new' ho0 (Kd.R_lt (by (with_reducible repeat (first | apply Kd.R_alloc | apply Kd.R_drewN | apply Kd.R_drew)); exact (Kd.R_mono (Kd.R_far (p := ⟨gb553, 2, none⟩) (Kd.R_far (p := ⟨gb553, 1, none⟩) (Kd.R_far (p := ⟨gb553, 0, none⟩) (Kd.R_types HO558.out BK553.out (by decide)) (fun _ hk => hk.2) (.bool t562)) (fun _ hk => hk.2) (.slice Ao25 t563.length co25)) (fun _ hk => hk.2) (.slice Ao26 t566.length co26)) (fun _ h_ => h_.1))))) (Kd.R_lt (by (with_reducible repeat (first | apply Kd.R_alloc | apply Kd.R_drewN | apply Kd.R_drew)); exact (Kd.R_mono (Kd.R_far (p := ⟨gb553, 2, none⟩) (Kd.R_far (p := ⟨gb553, 1, none⟩) (Kd.R_far (p := ⟨gb553, 0, none⟩) (Kd.R_types HO561.out BK553.out (by decide)) (fun _ hk => hk.2) (.bool t562)) (fun _ hk => hk.2) (.slice Ao25 t563.length co25)) (fun _ hk => hk.2) (.slice Ao26 t566.length co26)) (fun _ h_ => h_.1))))) (Kd.R_lt (by (with_reducible repeat (first | apply Kd.R_alloc | apply Kd.R_drewN | apply Kd.R_drew)); exact (Kd.R_mono (Kd.R_far (p := ⟨gb553, 2, none⟩) (Kd.R_far (p := ⟨gb553, 1, none⟩) (Kd.R_far (p := ⟨gb553, 0, none⟩) (Kd.R_types HO565.out BK553.out (by decide)) (fun _ hk => hk.2) (.bool t562)) (fun _ hk => hk.2) (.slice Ao25 t563.length co25)) (fun _ hk => hk.2) (.slice Ao26 t566.length co26)) (fun _ h_ => h_.1))))) (Kd.R_lt (by (with_reducible repeat (first | apply Kd.R_alloc | apply Kd.R_drewN | apply Kd.R_drew)); exact (Kd.R_mono (Kd.R_far (p := ⟨gb553, 2, none⟩) (Kd.R_far (p := ⟨gb553, 1, none⟩) (Kd.R_far (p := ⟨gb553, 0, none⟩) (Kd.R_types HO568.out BK553.out (by decide)) (fun _ hk => hk.2) (.bool t562)) (fun _ hk => hk.2) (.slice Ao25 t563.length co25)) (fun _ hk => hk.2) (.slice Ao26 t566.length co26)) (fun _ h_ => h_.1))))) (below_size (by repeat (first | (with_reducible first | exact HB.out | apply below_alloc | apply pw_below_drewN | apply below_drew1 | refine below_set ?_ GE552.out | refine below_set ?_ GE553.out | refine below_set ?_ GE554.out) | exact HB.out)))); replace HO558 := zA (Kd.R_elder' (by (with_reducible repeat (first | apply Kd.R_alloc | apply Kd.R_drewN | apply Kd.R_drew)); exact (Kd.R_mono (Kd.R_far (p := ⟨gb553, 2, none⟩) (Kd.R_far (p := ⟨gb553, 1, none⟩) (Kd.R_far (p := ⟨gb553, 0, none⟩) (Kd.R_types HO558.out BK553.out (by decide)) (fun _ hk => hk.2) (.bool t562)) (fun _ hk => hk.2) (.slice Ao25 t563.length co25)) (fun _ hk => hk.2) (.slice Ao26 t566.length co26)) (fun _ h_ => h_.1))) (Kd.R_base ho0) hb); replace HO561 := zA (Kd.R_elder' (by (with_reducible repeat (first | apply Kd.R_alloc | apply Kd.R_drewN | apply Kd.R_drew)); exact (Kd.R_mono (Kd.R_far (p := ⟨gb553, 2, none⟩) (Kd.R_far (p := ⟨gb553, 1, none⟩) (Kd.R_far (p := ⟨gb553, 0, none⟩) (Kd.R_types HO561.out BK553.out (by decide)) (fun _ hk => hk.2) (.bool t562)) (fun _ hk => hk.2) (.slice Ao25 t563.length co25)) (fun _ hk => hk.2) (.slice Ao26 t566.length co26)) (fun _ h_ => h_.1))) (Kd.R_base ho0) hb); replace HO565 := zA (Kd.R_elder' (by (with_reducible repeat (first | apply Kd.R_alloc | apply Kd.R_drewN | apply Kd.R_drew)); exact (Kd.R_mono (Kd.R_far (p := ⟨gb553, 2, none⟩) (Kd.R_far (p := ⟨gb553, 1, none⟩) (Kd.R_far (p := ⟨gb553, 0, none⟩) (Kd.R_types HO565.out BK553.out (by decide)) (fun _ hk => hk.2) (.bool t562)) (fun _ hk => hk.2) (.slice Ao25 t563.length co25)) (fun _ hk => hk.2) (.slice Ao26 t566.length co26)) (fun _ h_ => h_.1))) (Kd.R_base ho0) hb); replace HO568 := zA (Kd.R_elder' (by (with_reducible repeat (first | apply Kd.R_alloc | apply Kd.R_drewN | apply Kd.R_drew)); exact (Kd.R_mono (Kd.R_far (p := ⟨gb553, 2, none⟩) (Kd.R_far (p := ⟨gb553, 1, none⟩) (Kd.R_far (p := ⟨gb553, 0, none⟩) (Kd.R_types HO568.out BK553.out (by decide)) (fun _ hk => hk.2) (.bool t562)) (fun _ hk => hk.2) (.slice Ao25 t563.length co25)) (fun _ hk => hk.2) (.slice Ao26 t566.length co26)) (fun _ h_ => h_.1))) (Kd.R_base ho0) hb); replace BK552 := zA (blk_below (g := gb552) (o := .cells #[.bool t555, .slice Ao19 t556.length co19, .slice Ao20 t559.length co20] 52 (0, 0)) (by (with_reducible repeat (first | refine blk_drewN ?_ _ | refine blk_drew ?_ | refine blk_alloc ?_ _)); refine blk_far ?_ NB552_553.out _; (with_reducible repeat (first | refine blk_drewN ?_ _ | refine blk_drew ?_ | refine blk_alloc ?_ _)); refine blk_far ?_ NB552_553.out _; (with_reducible repeat (first | refine blk_drewN ?_ _ | refine blk_drew ?_ | refine blk_alloc ?_ _)); refine blk_far ?_ NB552_553.out _; exact zK BK552) hb); replace BK553 := zA (blk_below (g := gb553) (o := .cells #[.bool t562, .slice Ao25 t563.length co25, .slice Ao26 t566.length co26] 52 (0, 0)) (by (with_reducible repeat (first | refine blk_drewN ?_ _ | refine blk_drew ?_ | refine blk_alloc ?_ _)); refine blk_put (cs := #[.bool t562, .slice Ao25 t563.length co25, .slice A1_2 l1_2.length c1_2]) ?_ 2 _ rfl; (with_reducible repeat (first | refine blk_drewN ?_ _ | refine blk_drew ?_ | refine blk_alloc ?_ _)); refine blk_put (cs := #[.bool t562, .slice A1_1 l1_1.length c1_1, .slice A1_2 l1_2.length c1_2]) ?_ 1 _ rfl; (with_reducible repeat (first | refine blk_drewN ?_ _ | refine blk_drew ?_ | refine blk_alloc ?_ _)); refine blk_put (cs := #[.bool a1_0, .slice A1_1 l1_1.length c1_1, .slice A1_2 l1_2.length c1_2]) ?_ 0 _ rfl; exact zK BK553) hb); replace BK554 := zA (blk_below (g := gb554) (o := .cells #[.bool false, .slice none 0 0, .slice none 0 0] 52 (0, 0)) (by (with_reducible repeat (first | refine blk_drewN ?_ _ | refine blk_drew ?_ | refine blk_alloc ?_ _)); refine blk_far ?_ NB554_553.out _; (with_reducible repeat (first | refine blk_drewN ?_ _ | refine blk_drew ?_ | refine blk_alloc ?_ _)); refine blk_far ?_ NB554_553.out _; (with_reducible repeat (first | refine blk_drewN ?_ _ | refine blk_drew ?_ | refine blk_alloc ?_ _)); refine blk_far ?_ NB554_553.out _; exact zK BK554) hb); replace HB := zA (below_step (by repeat (first | (with_reducible first | exact HB.out | apply below_alloc | apply pw_below_drewN | apply below_drew1 | refine below_set ?_ GE552.out | refine below_set ?_ GE553.out | refine below_set ?_ GE554.out) | exact HB.out)) hb); (try clear hb ho0); have hcz29_0 : w28.cell? ⟨gb553, 0, none⟩ = some (.bool t562) := (blk_cell BK553.out 0).trans rfl; have hcz29_1 : w28.cell? ⟨gb553, 1, none⟩ = some (.slice Ao25 t563.length co25) := (blk_cell BK553.out 1).trans rfl; have hcz29_2 : w28.cell? ⟨gb553, 2, none⟩ = some (.slice Ao26 t566.length co26) := (blk_cell BK553.out 2).trans rfl; have hfz29_0 := blk_frozen BK553.out 0; have hfz29_1 := blk_frozen BK553.out 1; have hfz29_2 := blk_frozen BK553.out 2; have hcz30_0 : w28.cell? ⟨gb552, 0, none⟩ = some (.bool t555) := (blk_cell BK552.out 0).trans rfl; have hcz30_1 : w28.cell? ⟨gb552, 1, none⟩ = some (.slice Ao19 t556.length co19) := (blk_cell BK552.out 1).trans rfl; have hcz30_2 : w28.cell? ⟨gb552, 2, none⟩ = some (.slice Ao20 t559.length co20) := (blk_cell BK552.out 2).trans rfl; have hfz30_0 := blk_frozen BK552.out 0; have hfz30_1 := blk_frozen BK552.out 1; have hfz30_2 := blk_frozen BK552.out 2) | ((with_reducible refine gate_callee (f := 47) rfl ?_); refine goesL_ (some 21) rfl rfl Try.func47 (by kernel_rfl) rfl #[.slice Ao25 t563.length co25, .slice Ao20 t559.length co20] rfl (by (try simp only [List.map_toArray, List.map_cons, List.map_nil]); first | done | rfl | (simp only [List.length_drop, List.length_take]; rfl)) ?_; (with_reducible refine (codewrightref01_Mul.calls k _ _ t563 _ _ t559 t572 _ ?side1 ?side2 ?side3 ?side4 A6.out).mono ?_); (case side1 => exact zC ((Kd.R_reads' HO565.out).2.2)); (case side2 => exact (Kd.R_reads' HO565.out).2.1); (case side3 => exact zC ((Kd.R_reads' HO561.out).2.2)); (case side4 => exact (Kd.R_reads' HO561.out).2.1); rintro e w31 ⟨v573, rfl, ho0, hb⟩; refine ⟨_, rfl, ?_⟩; have HO574 := zA (Kd.R_lower (Kd.R_new' (Kd.R_new' (Kd.R_new' (Kd.R_new' (Kd.R_new' ho0 (Kd.R_lt (by exact zR HO558))) (Kd.R_lt (by exact zR HO561))) (Kd.R_lt (by exact zR HO565))) (Kd.R_lt (by exact zR HO568))) (Kd.R_lt (by exact zR HO571))) (below_size (by repeat (first | (with_reducible first | exact HB.out | apply below_alloc | apply pw_below_drewN | apply below_drew1 | refine below_set ?_ GE552.out | refine below_set ?_ GE553.out | refine below_set ?_ GE554.out) | exact HB.out)))); replace HO558 := zA (Kd.R_elder' (by exact zR HO558) (Kd.R_base ho0) hb); replace HO561 := zA (Kd.R_elder' (by exact zR HO561) (Kd.R_base ho0) hb); replace HO565 := zA (Kd.R_elder' (by exact zR HO565) (Kd.R_base ho0) hb); replace HO568 := zA (Kd.R_elder' (by exact zR HO568) (Kd.R_base ho0) hb); replace HO571 := zA (Kd.R_elder' (by exact zR HO571) (Kd.R_base ho0) hb); replace BK552 := zA (blk_below (g := gb552) (o := .cells #[.bool t555, .slice Ao19 t556.length co19, .slice Ao20 t559.length co20] 52 (0, 0)) (by exact zK BK552) hb); replace BK553 := zA (blk_below (g := gb553) (o := .cells #[.bool t562, .slice Ao25 t563.length co25, .slice Ao26 t566.length co26] 52 (0, 0)) (by exact zK BK553) hb); replace BK554 := zA (blk_below (g := gb554) (o := .cells #[.bool false, .slice none 0 0, .slice none 0 0] 52 (0, 0)) (by exact zK BK554) hb); replace HB := zA (below_step (by repeat (first | (with_reducible first | exact HB.out | apply below_alloc | apply pw_below_drewN | apply below_drew1 | refine below_set ?_ GE552.out | refine below_set ?_ GE553.out | refine below_set ?_ GE554.out) | exact HB.out)) hb); (try clear hb ho0); have hcz32_0 : w31.cell? ⟨gb552, 0, none⟩ = some (.bool t555) := (blk_cell BK552.out 0).trans rfl; have hcz32_1 : w31.cell? ⟨gb552, 1, none⟩ = some (.slice Ao19 t556.length co19) := (blk_cell BK552.out 1).trans rfl; have hcz32_2 : w31.cell? ⟨gb552, 2, none⟩ = some (.slice Ao20 t559.length co20) := (blk_cell BK552.out 2).trans rfl; have hfz32_0 := blk_frozen BK552.out 0; have hfz32_1 := blk_frozen BK552.out 1; have hfz32_2 := blk_frozen BK552.out 2; have hcz33_0 : w31.cell? ⟨gb553, 0, none⟩ = some (.bool t562) := (blk_cell BK553.out 0).trans rfl; have hcz33_1 : w31.cell? ⟨gb553, 1, none⟩ = some (.slice Ao25 t563.length co25) := (blk_cell BK553.out 1).trans rfl; have hcz33_2 : w31.cell? ⟨gb553, 2, none⟩ = some (.slice Ao26 t566.length co26) := (blk_cell BK553.out 2).trans rfl; have hfz33_0 := blk_frozen BK553.out 0; have hfz33_1 := blk_frozen BK553.out 1; have hfz33_2 := blk_frozen BK553.out 2) | ((with_reducible refine gate_callee (f := 47) rfl ?_); refine goesL_ (some 26) rfl rfl Try.func47 (by kernel_rfl) rfl #[.slice Ao20 t559.length co20, .slice Ao26 t566.length co26] rfl (by (try simp only [List.map_toArray, List.map_cons, List.map_nil]); first | done | rfl | (simp only [List.length_drop, List.length_take]; rfl)) ?_; (with_reducible refine (codewrightref01_Mul.calls k _ _ t559 _ _ t566 t575 _ ?side1 ?side2 ?side3 ?side4 A7.out).mono ?_); (case side1 => exact zC ((Kd.R_reads' HO561.out).2.2)); (case side2 => exact (Kd.R_reads' HO561.out).2.1); (case side3 => exact zC ((Kd.R_reads' HO568.out).2.2)); (case side4 => exact (Kd.R_reads' HO568.out).2.1); rintro e w34 ⟨v576, rfl, ho0, hb⟩; refine ⟨_, rfl, ?_⟩; have HO577 := zA (Kd.R_lower (Kd.R_new' (Kd.R_new' (Kd.R_new' (Kd.R_new' (Kd.R_new' (Kd.R_new' ho0 (Kd.R_lt (by exact zR HO558))) (Kd.R_lt (by exact zR HO561))) (Kd.R_lt (by exact zR HO565))) (Kd.R_lt (by exact zR HO568))) (Kd.R_lt (by exact zR HO571))) (Kd.R_lt (by exact zR HO574))) (below_size (by repeat (first | (with_reducible first | exact HB.out | apply below_alloc | apply pw_below_drewN | apply below_drew1 | refine below_set ?_ GE552.out | refine below_set ?_ GE553.out | refine below_set ?_ GE554.out) | exact HB.out)))); replace HO558 := zA (Kd.R_elder' (by exact zR HO558) (Kd.R_base ho0) hb); replace HO561 := zA (Kd.R_elder' (by exact zR HO561) (Kd.R_base ho0) hb); replace HO565 := zA (Kd.R_elder' (by exact zR HO565) (Kd.R_base ho0) hb); replace HO568 := zA (Kd.R_elder' (by exact zR HO568) (Kd.R_base ho0) hb); replace HO571 := zA (Kd.R_elder' (by exact zR HO571) (Kd.R_base ho0) hb); replace HO574 := zA (Kd.R_elder' (by exact zR HO574) (Kd.R_base ho0) hb); replace BK552 := zA (blk_below (g := gb552) (o := .cells #[.bool t555, .slice Ao19 t556.length co19, .slice Ao20 t559.length co20] 52 (0, 0)) (by exact zK BK552) hb); replace BK553 := zA (blk_below (g := gb553) (o := .cells #[.bool t562, .slice Ao25 t563.length co25, .slice Ao26 t566.length co26] 52 (0, 0)) (by exact zK BK553) hb); replace BK554 := zA (blk_below (g := gb554) (o := .cells #[.bool false, .slice none 0 0, .slice none 0 0] 52 (0, 0)) (by exact zK BK554) hb); replace HB := zA (below_step (by repeat (first | (with_reducible first | exact HB.out | apply below_alloc | apply pw_below_drewN | apply below_drew1 | refine below_set ?_ GE552.out | refine below_set ?_ GE553.out | refine below_set ?_ GE554.out) | exact HB.out)) hb); (try clear hb ho0); have hcz35_0 : w34.cell? ⟨gb552, 0, none⟩ = some (.bool t555) := (blk_cell BK552.out 0).trans rfl; have hcz35_1 : w34.cell? ⟨gb552, 1, none⟩ = some (.slice Ao19 t556.length co19) := (blk_cell BK552.out 1).trans rfl; have hcz35_2 : w34.cell? ⟨gb552, 2, none⟩ = some (.slice Ao20 t559.length co20) := (blk_cell BK552.out 2).trans rfl; have hfz35_0 := blk_frozen BK552.out 0; have hfz35_1 := blk_frozen BK552.out 1; have hfz35_2 := blk_frozen BK552.out 2; have hcz36_0 : w34.cell? ⟨gb553, 0, none⟩ = some (.bool t562) := (blk_cell BK553.out 0).trans rfl; have hcz36_1 : w34.cell? ⟨gb553, 1, none⟩ = some (.slice Ao25 t563.length co25) := (blk_cell BK553.out 1).trans rfl; have hcz36_2 : w34.cell? ⟨gb553, 2, none⟩ = some (.slice Ao26 t566.length co26) := (blk_cell BK553.out 2).trans rfl; have hfz36_0 := blk_frozen BK553.out 0; have hfz36_1 := blk_frozen BK553.out 1; have hfz36_2 := blk_frozen BK553.out 2))
  have n0_ := zA (Kd.R_drew HO558.out)
  have n1_ := zA (Kd.R_drew HO561.out)
  have n2_ := zA (Kd.R_drew HO565.out)
  have n3_ := zA (Kd.R_drew HO568.out)
  have n4_ := zA (Kd.R_drew HO571.out)
  have n5_ := zA (Kd.R_drew HO574.out)
  have n6_ := zA (Kd.R_drew HO577.out)
  have n7_ := zA (blk_drew BK552.out)
  have n8_ := zA (blk_drew BK553.out)
  have n9_ := zA (blk_drew BK554.out)
  have n10_ := zA (below_drew1 HB.out)
  clear HO558
  clear HO561
  clear HO565
  clear HO568
  clear HO571
  clear HO574
  clear HO577
  clear BK552
  clear BK553
  clear BK554
  clear HB
  have HO558 := n0_
  have HO561 := n1_
  have HO565 := n2_
  have HO568 := n3_
  have HO571 := n4_
  have HO574 := n5_
  have HO577 := n6_
  have BK552 := n7_
  have BK553 := n8_
  have BK554 := n9_
  have HB := n10_
  clear n0_ n1_ n2_ n3_ n4_ n5_ n6_ n7_ n8_ n9_ n10_
  obtain ⟨Ao38, co38, eo38⟩ := Kd.R_slice HO571.out
  (first | subst eo38 | (injection eo38 with f1_ f2_ f3_; have f4_ := f1_.symm; have f5_ := f3_.symm; clear f1_ f2_ f3_; subst f4_; subst f5_))
  obtain ⟨Ao39, co39, eo39⟩ := Kd.R_slice HO574.out
  (first | subst eo39 | (injection eo39 with f1_ f2_ f3_; have f4_ := f1_.symm; have f5_ := f3_.symm; clear f1_ f2_ f3_; subst f4_; subst f5_))
  refine start_ (n := 8) (S := fun w' => w'.cell? ⟨gb552, 0, none⟩ = some (.bool t555) ∧ w'.cell? ⟨gb552, 1, none⟩ = some (.slice Ao19 t556.length co19) ∧ w'.cell? ⟨gb552, 2, none⟩ = some (.slice Ao20 t559.length co20)) (ds := []) #[false, false, false, false, false, false, false, false] (by kernel_rfl) rfl rfl ⟨(blk_cell BK552.out 0).trans rfl, (blk_cell BK552.out 1).trans rfl, (blk_cell BK552.out 2).trans rfl⟩ (fun hHeld => ?_); refine with_tabW codewrightref02_Add.tab7 codewrightref02_Add.bits7 (fun HT_ HW_ => ?_)
  generalize w34.drew = w37 at HO558 HO561 HO565 HO568 HO571 HO574 HO577 BK552 BK553 BK554 HB hHeld ⊢
  refine pure_ (i := 0) (N := some 32) (v := ?_) (a' := ?_) #[true, false, false, false, false, false, false, false] rfl rfl (any_of HT_.out (by kernel_rfl)) (fun _ _ _ h => h) (Or.inl ⟨by rfl, ?_⟩) ?_ ?_
  rotate_left
  ·
   intro w'
   go_simp
   with_reducible rfl
  rotate_left
  ·
   simp only [Act.put, List.setIfInBounds_toArray, List.set_cons_zero, List.set_cons_succ, i64_w, i32_w]
   rfl
  refine pure_ (i := 2) (N := some 34) (v := ?_) (a' := ?_) #[true, false, true, false, false, false, false, false] rfl rfl (any_of HT_.out (by kernel_rfl)) (fun _ _ _ h => h) (Or.inl ⟨by rfl, ?_⟩) ?_ ?_
  rotate_left
  ·
   intro w'
   go_simp
   with_reducible rfl
  rotate_left
  ·
   simp only [Act.put, List.setIfInBounds_toArray, List.set_cons_zero, List.set_cons_succ, i64_w, i32_w]
   rfl
  refine pure_ (i := 3) (N := some 35) (v := ?_) (a' := ?_) #[true, false, true, true, false, false, false, false] rfl rfl (any_of HT_.out (by kernel_rfl)) (fun _ _ _ h => h) (Or.inl ⟨by rfl, ?_⟩) ?_ ?_
  rotate_left
  ·
   intro w'
   go_simp
   with_reducible rfl
  rotate_left
  ·
   simp only [Act.put, List.setIfInBounds_toArray, List.set_cons_zero, List.set_cons_succ, i64_w, i32_w]
   rfl
  refine pure_ (i := 5) (N := some 37) (v := ?_) (a' := ?_) #[true, false, true, true, false, true, false, false] rfl rfl (any_of HT_.out (by kernel_rfl)) (fun _ _ _ h => h) (Or.inl ⟨by rfl, ?_⟩) ?_ ?_
  rotate_left
  ·
   intro w'
   go_simp
   with_reducible rfl
  rotate_left
  ·
   simp only [Act.put, List.setIfInBounds_toArray, List.set_cons_zero, List.set_cons_succ, i64_w, i32_w]
   rfl
  refine take_ (i := 1) (N := some 33) (v := ?_) (a' := ?_) #[true, true, true, true, false, true, false, false] rfl rfl (take_ofW HT_.out HW_.out (by kernel_rfl)) (fun _ _ _ h => h) (Or.inl ⟨by rfl, ?_⟩) hHeld ?_ ?_
  rotate_left
  ·
   rintro w' ⟨s0, s1, s2⟩
   go_simp
   with_reducible rfl
  rotate_left
  ·
   simp only [Act.put, List.setIfInBounds_toArray, List.set_cons_zero, List.set_cons_succ, i64_w, i32_w]
   rfl
  refine one_ (i := 4) (N := some 36) #[true, true, true, true, true, true, false, false] rfl rfl (one_of HT_.out (by kernel_rfl)) (by decide) (fun K hK => ?_)
  refine goes_ Try.func85 (by kernel_rfl) rfl #[.slice Ao38 t569.length co38, .slice Ao39 t572.length co39] (by rfl) rfl rfl (by (try simp only [List.map_toArray, List.map_cons, List.map_nil]); first | done | rfl | (simp only [List.length_drop, List.length_take]; rfl)) ?_
  with_reducible refine (codewrightref01_Add.calls k _ _ t569 _ _ t572 t578 _ ?side1 ?side2 ?side3 ?side4 A9.out).mono ?_
  (case side1 => exact zC ((Kd.R_reads' HO571.out).2.2))
  (case side2 => exact (Kd.R_reads' HO571.out).2.1)
  (case side3 => exact zC ((Kd.R_reads' HO574.out).2.2))
  (case side4 => exact (Kd.R_reads' HO574.out).2.1)
  rintro e w40 ⟨v579, rfl, ho0, hb⟩
  refine ⟨_, rfl, ?_⟩
  have n0_ := zA (Kd.R_elder' (by exact zR HO558) (Kd.R_base ho0) hb)
  have n1_ := zA (Kd.R_elder' (by exact zR HO561) (Kd.R_base ho0) hb)
  have n2_ := zA (Kd.R_elder' (by exact zR HO565) (Kd.R_base ho0) hb)
  have n3_ := zA (Kd.R_elder' (by exact zR HO568) (Kd.R_base ho0) hb)
  have n4_ := zA (Kd.R_elder' (by exact zR HO571) (Kd.R_base ho0) hb)
  have n5_ := zA (Kd.R_elder' (by exact zR HO574) (Kd.R_base ho0) hb)
  have n6_ := zA (Kd.R_elder' (by exact zR HO577) (Kd.R_base ho0) hb)
  have n7_ := zA (Kd.R_lower (Kd.R_new' (Kd.R_new' (Kd.R_new' (Kd.R_new' (Kd.R_new' (Kd.R_new' (Kd.R_new' ho0 (Kd.R_lt (by exact zR HO558))) (Kd.R_lt (by exact zR HO561))) (Kd.R_lt (by exact zR HO565))) (Kd.R_lt (by exact zR HO568))) (Kd.R_lt (by exact zR HO571))) (Kd.R_lt (by exact zR HO574))) (Kd.R_lt (by exact zR HO577))) (below_size (by repeat (first | (with_reducible first | exact HB.out | apply below_alloc | apply pw_below_drewN | apply below_drew1 | refine below_set ?_ GE552.out | refine below_set ?_ GE553.out | refine below_set ?_ GE554.out) | exact HB.out))))
  have n8_ := zA (blk_below (g := gb552) (o := .cells #[.bool t555, .slice Ao19 t556.length co19, .slice Ao20 t559.length co20] 52 (0, 0)) (by exact zK BK552) hb)
  have n9_ := zA (blk_below (g := gb553) (o := .cells #[.bool t562, .slice Ao25 t563.length co25, .slice Ao26 t566.length co26] 52 (0, 0)) (by exact zK BK553) hb)
  have n10_ := zA (blk_below (g := gb554) (o := .cells #[.bool false, .slice none 0 0, .slice none 0 0] 52 (0, 0)) (by exact zK BK554) hb)
  have n11_ := zA (below_step (by repeat (first | (with_reducible first | exact HB.out | apply below_alloc | apply pw_below_drewN | apply below_drew1 | refine below_set ?_ GE552.out | refine below_set ?_ GE553.out | refine below_set ?_ GE554.out) | exact HB.out)) hb)
  clear HO558
  clear HO561
  clear HO565
  clear HO568
  clear HO571
  clear HO574
  clear HO577
  clear BK552
  clear BK553
  clear BK554
  clear HB
  have HO558 := n0_
  have HO561 := n1_
  have HO565 := n2_
  have HO568 := n3_
  have HO571 := n4_
  have HO574 := n5_
  have HO577 := n6_
  have HO580 := n7_
  have BK552 := n8_
  have BK553 := n9_
  have BK554 := n10_
  have HB := n11_
  clear n0_ n1_ n2_ n3_ n4_ n5_ n6_ n7_ n8_ n9_ n10_ n11_
  (try clear hb)
  (try clear hb2)
  (try clear hk)
  (try clear hi)
  (try clear ho0)
  obtain ⟨Ao41, co41, eo41⟩ := Kd.R_slice HO580.out
  (first | subst eo41 | (injection eo41 with f1_ f2_ f3_; have f4_ := f1_.symm; have f5_ := f3_.symm; clear f1_ f2_ f3_; subst f4_; subst f5_))
  obtain ⟨Ao42, co42, eo42⟩ := Kd.R_slice HO577.out
  (first | subst eo42 | (injection eo42 with f1_ f2_ f3_; have f4_ := f1_.symm; have f5_ := f3_.symm; clear f1_ f2_ f3_; subst f4_; subst f5_))
  refine hK.out _ _ ⟨(blk_cell BK552.out 0).trans rfl, (blk_cell BK552.out 1).trans rfl, (blk_cell BK552.out 2).trans rfl⟩ (fun hHeld => ?_)
  clear hK K
  refine norm_ (a' := ?_) ?_ ?_
  rotate_left
  ·
   show Act.put _ (some 36) _ = _
   simp only [Act.put, List.setIfInBounds_toArray, List.set_cons_zero, List.set_cons_succ, i64_w, i32_w]
   rfl
  refine one_ (i := 6) (N := some 38) #[true, true, true, true, true, true, true, false] rfl rfl (one_of HT_.out (by kernel_rfl)) (by decide) (fun K hK => ?_)
  refine goes_ Try.func84 (by kernel_rfl) rfl #[.bool t555, .slice Ao41 t578.length co41, .slice Ao42 t575.length co42] (by rfl) rfl rfl (by (try simp only [List.map_toArray, List.map_cons, List.map_nil]); first | done | rfl | (simp only [List.length_drop, List.length_take]; rfl)) ?_
  with_reducible refine (codewrightref02_Make.calls k t555 _ _ t578 _ _ t575 t581 t582 t585 _ ?side1 ?side2 ?side3 ?side4 A10.out).mono ?_
  (case side1 => exact zC ((Kd.R_reads' HO580.out).2.2))
  (case side2 => exact (Kd.R_reads' HO580.out).2.1)
  (case side3 => exact zC ((Kd.R_reads' HO577.out).2.2))
  (case side4 => exact (Kd.R_reads' HO577.out).2.1)
  rintro e w43 ⟨v583, v586, rfl, ho0, ho1, hb⟩
  refine ⟨_, rfl, ?_⟩
  have n0_ := zA (Kd.R_mono (Kd.R_told (Kd.R_told (Kd.R_old (by exact zR HO558) hb) (Kd.R_base ho0)) (Kd.R_base ho1)) (fun _ h_ => h_.1))
  have n1_ := zA (Kd.R_mono (Kd.R_told (Kd.R_told (Kd.R_old (by exact zR HO561) hb) (Kd.R_base ho0)) (Kd.R_base ho1)) (fun _ h_ => h_.1))
  have n2_ := zA (Kd.R_mono (Kd.R_told (Kd.R_told (Kd.R_old (by exact zR HO565) hb) (Kd.R_base ho0)) (Kd.R_base ho1)) (fun _ h_ => h_.1))
  have n3_ := zA (Kd.R_mono (Kd.R_told (Kd.R_told (Kd.R_old (by exact zR HO568) hb) (Kd.R_base ho0)) (Kd.R_base ho1)) (fun _ h_ => h_.1))
  have n4_ := zA (Kd.R_mono (Kd.R_told (Kd.R_told (Kd.R_old (by exact zR HO571) hb) (Kd.R_base ho0)) (Kd.R_base ho1)) (fun _ h_ => h_.1))
  have n5_ := zA (Kd.R_mono (Kd.R_told (Kd.R_told (Kd.R_old (by exact zR HO574) hb) (Kd.R_base ho0)) (Kd.R_base ho1)) (fun _ h_ => h_.1))
  have n6_ := zA (Kd.R_mono (Kd.R_told (Kd.R_told (Kd.R_old (by exact zR HO577) hb) (Kd.R_base ho0)) (Kd.R_base ho1)) (fun _ h_ => h_.1))
  have n7_ := zA (Kd.R_mono (Kd.R_told (Kd.R_told (Kd.R_old (by exact zR HO580) hb) (Kd.R_base ho0)) (Kd.R_base ho1)) (fun _ h_ => h_.1))
  have n8_ := zA (Kd.R_lower (Kd.R_new' (Kd.R_new' (Kd.R_new' (Kd.R_new' (Kd.R_new' (Kd.R_new' (Kd.R_new' (Kd.R_new' ho0 (Kd.R_lt (by exact zR HO558))) (Kd.R_lt (by exact zR HO561))) (Kd.R_lt (by exact zR HO565))) (Kd.R_lt (by exact zR HO568))) (Kd.R_lt (by exact zR HO571))) (Kd.R_lt (by exact zR HO574))) (Kd.R_lt (by exact zR HO577))) (Kd.R_lt (by exact zR HO580))) (below_size (by repeat (first | (with_reducible first | exact HB.out | apply below_alloc | apply pw_below_drewN | apply below_drew1 | refine below_set ?_ GE552.out | refine below_set ?_ GE553.out | refine below_set ?_ GE554.out) | exact HB.out))))
  have n9_ := zA (Kd.R_lower (Kd.R_new' (Kd.R_new' (Kd.R_new' (Kd.R_new' (Kd.R_new' (Kd.R_new' (Kd.R_new' (Kd.R_new' ho1 (Kd.R_lt (by exact zR HO558))) (Kd.R_lt (by exact zR HO561))) (Kd.R_lt (by exact zR HO565))) (Kd.R_lt (by exact zR HO568))) (Kd.R_lt (by exact zR HO571))) (Kd.R_lt (by exact zR HO574))) (Kd.R_lt (by exact zR HO577))) (Kd.R_lt (by exact zR HO580))) (below_size (by repeat (first | (with_reducible first | exact HB.out | apply below_alloc | apply pw_below_drewN | apply below_drew1 | refine below_set ?_ GE552.out | refine below_set ?_ GE553.out | refine below_set ?_ GE554.out) | exact HB.out))))
  have n10_ := zA (blk_below (g := gb552) (o := .cells #[.bool t555, .slice Ao19 t556.length co19, .slice Ao20 t559.length co20] 52 (0, 0)) (by exact zK BK552) hb)
  have n11_ := zA (blk_below (g := gb553) (o := .cells #[.bool t562, .slice Ao25 t563.length co25, .slice Ao26 t566.length co26] 52 (0, 0)) (by exact zK BK553) hb)
  have n12_ := zA (blk_below (g := gb554) (o := .cells #[.bool false, .slice none 0 0, .slice none 0 0] 52 (0, 0)) (by exact zK BK554) hb)
  have n13_ := zA (below_step (by repeat (first | (with_reducible first | exact HB.out | apply below_alloc | apply pw_below_drewN | apply below_drew1 | refine below_set ?_ GE552.out | refine below_set ?_ GE553.out | refine below_set ?_ GE554.out) | exact HB.out)) hb)
  clear HO558
  clear HO561
  clear HO565
  clear HO568
  clear HO571
  clear HO574
  clear HO577
  clear HO580
  clear BK552
  clear BK553
  clear BK554
  clear HB
  have HO558 := n0_
  have HO561 := n1_
  have HO565 := n2_
  have HO568 := n3_
  have HO571 := n4_
  have HO574 := n5_
  have HO577 := n6_
  have HO580 := n7_
  have HO584 := n8_
  have HO587 := n9_
  have BK552 := n10_
  have BK553 := n11_
  have BK554 := n12_
  have HB := n13_
  clear n0_ n1_ n2_ n3_ n4_ n5_ n6_ n7_ n8_ n9_ n10_ n11_ n12_ n13_
  (try clear hb)
  (try clear hb2)
  (try clear hk)
  (try clear hi)
  (try clear ho0)
  (try clear ho1)
  obtain ⟨Ao45, co45, eo45⟩ := Kd.R_slice HO584.out
  (first | subst eo45 | (injection eo45 with f1_ f2_ f3_; have f4_ := f1_.symm; have f5_ := f3_.symm; clear f1_ f2_ f3_; subst f4_; subst f5_))
  obtain ⟨Ao47, co47, eo47⟩ := Kd.R_slice HO587.out
  (first | subst eo47 | (injection eo47 with f1_ f2_ f3_; have f4_ := f1_.symm; have f5_ := f3_.symm; clear f1_ f2_ f3_; subst f4_; subst f5_))
  refine hK.out _ _ ⟨(blk_cell BK552.out 0).trans rfl, (blk_cell BK552.out 1).trans rfl, (blk_cell BK552.out 2).trans rfl⟩ (fun hHeld => ?_)
  clear hK K
  refine norm_ (a' := ?_) ?_ ?_
  rotate_left
  ·
   show Act.put _ (some 38) _ = _
   simp only [Act.put, List.setIfInBounds_toArray, List.set_cons_zero, List.set_cons_succ, i64_w, i32_w]
   rfl
  refine one_ (i := 7) (N := none) #[true, true, true, true, true, true, true, true] rfl rfl (one_of HT_.out (by kernel_rfl)) (by decide) (fun K hK => ?_)
  have hs44 : w43.cell? ⟨gb554, 0, none⟩ = some (.bool false) := (blk_cell BK554.out 0).trans rfl
  have hfs44 := blk_frozen BK554.out 0
  have hns44_0 := NB552_554.out
  have hns44_1 := NB553_554.out
  have hms44_0 := NB554_552.out
  have hms44_1 := NB554_553.out
  have hs46 : w43.cell? ⟨gb554, 1, none⟩ = some (.slice none 0 0) := (blk_cell BK554.out 1).trans rfl
  have hfs46 := blk_frozen BK554.out 1
  have hns46_0 := NB552_554.out
  have hns46_1 := NB553_554.out
  have hms46_0 := NB554_552.out
  have hms46_1 := NB554_553.out
  have hs48 : w43.cell? ⟨gb554, 2, none⟩ = some (.slice none 0 0) := (blk_cell BK554.out 2).trans rfl
  have hfs48 := blk_frozen BK554.out 2
  have hns48_0 := NB552_554.out
  have hns48_1 := NB553_554.out
  have hms48_0 := NB554_552.out
  have hms48_1 := NB554_553.out
  refine skip_ (w1 := ?_) (by rfl) rfl ?_ ?_
  rotate_left
  ·
   go_simp
   rfl
  refine hK.out _ _ ⟨((cell_far (p := ⟨gb554, _, none⟩) NB552_554.out _).trans (((cell_far (p := ⟨gb554, _, none⟩) NB552_554.out _).trans (((cell_far (p := ⟨gb554, _, none⟩) NB552_554.out _).trans (hHeld.1)))))), ((cell_far (p := ⟨gb554, _, none⟩) NB552_554.out _).trans (((cell_far (p := ⟨gb554, _, none⟩) NB552_554.out _).trans (((cell_far (p := ⟨gb554, _, none⟩) NB552_554.out _).trans (hHeld.2.1)))))), ((cell_far (p := ⟨gb554, _, none⟩) NB552_554.out _).trans (((cell_far (p := ⟨gb554, _, none⟩) NB552_554.out _).trans (((cell_far (p := ⟨gb554, _, none⟩) NB552_554.out _).trans (hHeld.2.2))))))⟩ (fun hHeld => ?_)
  clear hK K
  refine done_ (done_of HT_.out (by kernel_rfl)) ?_
  try go_wp2
  refine bodyPost_ret (results_cell_row rfl _ _ gb554 52 #[.bool t581, .slice Ao45 t582.length co45, .slice Ao47 t585.length co47] (0, 0) _ rfl (by (with_reducible repeat (first | refine blk_drewN ?_ _ | refine blk_drew ?_ | refine blk_alloc ?_ _)); refine blk_put (cs := #[.bool t581, .slice Ao45 t582.length co45, .slice none 0 0]) ?_ 2 _ rfl; (with_reducible repeat (first | refine blk_drewN ?_ _ | refine blk_drew ?_ | refine blk_alloc ?_ _)); refine blk_put (cs := #[.bool t581, .slice none 0 0, .slice none 0 0]) ?_ 1 _ rfl; (with_reducible repeat (first | refine blk_drewN ?_ _ | refine blk_drew ?_ | refine blk_alloc ?_ _)); refine blk_put (cs := #[.bool false, .slice none 0 0, .slice none 0 0]) ?_ 0 _ rfl; exact zK BK554) Try.underlying52 rfl (by kernel_rfl)) rfl ?_
  exact ⟨_, _, by first | rfl | (simp [errW_none, errW_some] <;> rfl) | (simp [*, errW_none, errW_some] <;> rfl), by (with_reducible repeat (first | apply Kd.R_alloc | apply Kd.R_drewN | apply Kd.R_drew)); exact Kd.R_mono (Kd.R_far (p := ⟨gb554, 2, none⟩) (Kd.R_far (p := ⟨gb554, 1, none⟩) (Kd.R_far (p := ⟨gb554, 0, none⟩) (Kd.R_types HO584.out BK554.out (by decide)) (fun _ hk => hk.2) (.bool t581)) (fun _ hk => hk.2) (.slice Ao45 t582.length co45)) (fun _ hk => hk.2) (.slice Ao47 t585.length co47)) (fun _ hk => hk.1.1.1.1.1.1.1.1.1), by (with_reducible repeat (first | apply Kd.R_alloc | apply Kd.R_drewN | apply Kd.R_drew)); exact Kd.R_mono (Kd.R_far (p := ⟨gb554, 2, none⟩) (Kd.R_far (p := ⟨gb554, 1, none⟩) (Kd.R_far (p := ⟨gb554, 0, none⟩) (Kd.R_types HO587.out BK554.out (by decide)) (fun _ hk => hk.2) (.bool t581)) (fun _ hk => hk.2) (.slice Ao45 t582.length co45)) (fun _ hk => hk.2) (.slice Ao47 t585.length co47)) (fun _ hk => hk.1.1.1.1.1.1.1.1.1), by repeat (first | (with_reducible first | exact HB.out | apply below_alloc | apply pw_below_drewN | apply below_drew1 | refine below_set ?_ GE552.out | refine below_set ?_ GE553.out | refine below_set ?_ GE554.out) | exact HB.out)⟩
 ·
  rw [if_neg c8] at H
  have c8b0 : (t555 == t562) = false := by simpa using c8
  (try (have c8b1 : decide (t555 = t562) = false := by simpa using c8))
  (try (have c8b2 : (t555 == t562) = false := by simpa using c8))
  (try (have c8b3 : ¬ (t555 = t562) := by simpa using c8))
  clear c8
  replace H := Option.bind_eq_some_iff.mp H
  obtain ⟨t588, A490, H⟩ := H
  replace H : (if t588 ≥ 0 then ((codewrightref01_Sub.f k t569 t572).bind fun t589 => ((codewrightref02_Make.f k t555 t589 t575).bind fun bt592 => (some (bt592.1, bt592.2.1, bt592.2.2)))) else ((codewrightref01_Sub.f k t572 t569).bind fun t599 => ((codewrightref02_Make.f k t562 t599 t575).bind fun bt602 => (some (bt602.1, bt602.2.1, bt602.2.2))))) = some (r1, r2, r3) := H
  have A49 := zA A490
  clear A490
  by_cases c50 : t588 ≥ 0
  ·
   rw [if_pos c50] at H
   have c50b0 : decide (0 ≤ t588) = true := decide_eq_true c50
   clear c50
   replace H := Option.bind_eq_some_iff.mp H
   obtain ⟨t589, A510, H⟩ := H
   replace H : ((codewrightref02_Make.f k t555 t589 t575).bind fun bt592 => (some (bt592.1, bt592.2.1, bt592.2.2))) = some (r1, r2, r3) := H
   have A51 := zA A510
   clear A510
   replace H := Option.bind_eq_some_iff.mp H
   obtain ⟨⟨t592, t593, t596⟩, A520, H⟩ := H
   replace H : (some (t592, t593, t596)) = some (r1, r2, r3) := H
   have A52 := zA A520
   clear A520
   simp only [Option.some.injEq, Prod.mk.injEq] at H
   obtain ⟨rfl, rfl, rfl⟩ := H
   go_enter Try.func43, Try.ntmps43
   try go_wp2_with (first | ((with_reducible refine gate_dst (N := 2) rfl ?_); refine box_event ?hg (N := 2) ?hd (cs := #[.bool a0_0, .slice A0_1 l0_1.length c0_1, .slice A0_2 l0_2.length c0_2]) (t := 52) ?hr ?_; (case hd => rfl); (case hg => rfl); (case hr => first | (go_simp; done) | (go_simp; rfl)); intro gb552 hg w53 hbox hb; have BK552 := zA (hbox); have GW552 := zA ((by rw [hg]; exact (below_size (by exact zB HB)) : w.heap.size ≤ gb552)); have GE552 := zA ((by rw [hg]; exact (below_size (by exact zB HB)) : w.heap.size ≤ gb552)); replace HB := zA (below_step (by exact zB HB) hb); clear hb hbox hg) | ((with_reducible refine gate_dst (N := 3) rfl ?_); refine box_event ?hg (N := 3) ?hd (cs := #[.bool a1_0, .slice A1_1 l1_1.length c1_1, .slice A1_2 l1_2.length c1_2]) (t := 52) ?hr ?_; (case hd => rfl); (case hg => rfl); (case hr => first | (go_simp; done) | (go_simp; rfl)); intro gb553 hg w54 hbox hb; have BK553 := zA (hbox); have GW553 := zA ((by rw [hg]; exact (below_size (by repeat (first | (with_reducible first | exact HB.out | apply below_alloc | apply pw_below_drewN | apply below_drew1 | refine below_set ?_ GE552.out) | exact HB.out))) : w.heap.size ≤ gb553)); have GE553 := zA ((by rw [hg]; exact (below_size (by repeat (first | (with_reducible first | exact HB.out | apply below_alloc | apply pw_below_drewN | apply below_drew1 | refine below_set ?_ GE552.out) | exact HB.out))) : w.heap.size ≤ gb553)); replace HB := zA (below_step (by repeat (first | (with_reducible first | exact HB.out | apply below_alloc | apply pw_below_drewN | apply below_drew1 | refine below_set ?_ GE552.out) | exact HB.out)) hb); have NB552_553 := zA ((by rw [hg]; exact Nat.ne_of_lt (blk_lt (g := gb552) (o := .cells #[.bool a0_0, .slice A0_1 l0_1.length c0_1, .slice A0_2 l0_2.length c0_2] 52 (0, 0)) (by exact zK BK552)) : gb552 ≠ gb553)); have NB553_552 := zA ((by rw [hg]; exact Nat.ne_of_gt (blk_lt (g := gb552) (o := .cells #[.bool a0_0, .slice A0_1 l0_1.length c0_1, .slice A0_2 l0_2.length c0_2] 52 (0, 0)) (by exact zK BK552)) : gb553 ≠ gb552)); replace BK552 := zA (blk_below (g := gb552) (o := .cells #[.bool a0_0, .slice A0_1 l0_1.length c0_1, .slice A0_2 l0_2.length c0_2] 52 (0, 0)) (by exact zK BK552) hb); clear hb hbox hg) | ((with_reducible refine gate_dst (N := 4) rfl ?_); refine box_event ?hg (N := 4) ?hd (cs := #[.bool false, .slice none 0 0, .slice none 0 0]) (t := 52) ?hr ?_; (case hd => rfl); (case hg => rfl); (case hr => first | (go_simp; done) | (go_simp; rfl)); intro gb554 hg w55 hbox hb; have BK554 := zA (hbox); have GW554 := zA ((by rw [hg]; exact (below_size (by repeat (first | (with_reducible first | exact HB.out | apply below_alloc | apply pw_below_drewN | apply below_drew1 | refine below_set ?_ GE552.out | refine below_set ?_ GE553.out) | exact HB.out))) : w.heap.size ≤ gb554)); have GE554 := zA ((by rw [hg]; exact (below_size (by repeat (first | (with_reducible first | exact HB.out | apply below_alloc | apply pw_below_drewN | apply below_drew1 | refine below_set ?_ GE552.out | refine below_set ?_ GE553.out) | exact HB.out))) : w.heap.size ≤ gb554)); replace HB := zA (below_step (by repeat (first | (with_reducible first | exact HB.out | apply below_alloc | apply pw_below_drewN | apply below_drew1 | refine below_set ?_ GE552.out | refine below_set ?_ GE553.out) | exact HB.out)) hb); have NB552_554 := zA ((by rw [hg]; exact Nat.ne_of_lt (blk_lt (g := gb552) (o := .cells #[.bool a0_0, .slice A0_1 l0_1.length c0_1, .slice A0_2 l0_2.length c0_2] 52 (0, 0)) (by exact zK BK552)) : gb552 ≠ gb554)); have NB554_552 := zA ((by rw [hg]; exact Nat.ne_of_gt (blk_lt (g := gb552) (o := .cells #[.bool a0_0, .slice A0_1 l0_1.length c0_1, .slice A0_2 l0_2.length c0_2] 52 (0, 0)) (by exact zK BK552)) : gb554 ≠ gb552)); replace BK552 := zA (blk_below (g := gb552) (o := .cells #[.bool a0_0, .slice A0_1 l0_1.length c0_1, .slice A0_2 l0_2.length c0_2] 52 (0, 0)) (by exact zK BK552) hb); have NB553_554 := zA ((by rw [hg]; exact Nat.ne_of_lt (blk_lt (g := gb553) (o := .cells #[.bool a1_0, .slice A1_1 l1_1.length c1_1, .slice A1_2 l1_2.length c1_2] 52 (0, 0)) (by exact zK BK553)) : gb553 ≠ gb554)); have NB554_553 := zA ((by rw [hg]; exact Nat.ne_of_gt (blk_lt (g := gb553) (o := .cells #[.bool a1_0, .slice A1_1 l1_1.length c1_1, .slice A1_2 l1_2.length c1_2] 52 (0, 0)) (by exact zK BK553)) : gb554 ≠ gb553)); replace BK553 := zA (blk_below (g := gb553) (o := .cells #[.bool a1_0, .slice A1_1 l1_1.length c1_1, .slice A1_2 l1_2.length c1_2] 52 (0, 0)) (by exact zK BK553) hb); clear hb hbox hg; have hnb56 := NB552_553.out; have hnc56 := NB553_552.out; have hnb57 := NB552_554.out; have hnc57 := NB554_552.out; have hcz58_0 : w55.cell? ⟨gb552, 0, none⟩ = some (.bool a0_0) := (blk_cell BK552.out 0).trans rfl; have hcz58_1 : w55.cell? ⟨gb552, 1, none⟩ = some (.slice A0_1 l0_1.length c0_1) := (blk_cell BK552.out 1).trans rfl; have hcz58_2 : w55.cell? ⟨gb552, 2, none⟩ = some (.slice A0_2 l0_2.length c0_2) := (blk_cell BK552.out 2).trans rfl; have hfz58_0 := blk_frozen BK552.out 0; have hfz58_1 := blk_frozen BK552.out 1; have hfz58_2 := blk_frozen BK552.out 2) | ((with_reducible refine gate_callee (f := 83) rfl ?_); refine goesL_ (some 9) rfl rfl Try.func83 (by kernel_rfl) rfl #[.agg #[.bool a0_0, .slice A0_1 l0_1.length c0_1, .slice A0_2 l0_2.length c0_2]] rfl (by (try simp only [List.map_toArray, List.map_cons, List.map_nil]); first | done | rfl | (simp only [List.length_drop, List.length_take]; rfl)) ?_; (with_reducible refine (codewrightref02_Trim.calls k a0_0 _ _ l0_1 _ _ l0_2 t555 t556 t559 _ ?side1 ?side2 ?side3 ?side4 A3.out).mono ?_); (case side1 => exact zC ((Kd.C_below HR0_1.out HB.out))); (case side2 => exact HC0_1.out); (case side3 => exact zC ((Kd.C_below HR0_2.out HB.out))); (case side4 => exact HC0_2.out); rintro e w59 ⟨v557, v560, rfl, ho0, ho1, hb⟩; refine ⟨_, rfl, ?_⟩; have HO558 := zA (Kd.R_lower ho0 (below_size (by repeat (first | (with_reducible first | exact HB.out | apply below_alloc | apply pw_below_drewN | apply below_drew1 | refine below_set ?_ GE552.out | refine below_set ?_ GE553.out | refine below_set ?_ GE554.out) | exact HB.out)))); have HO561 := zA (Kd.R_lower ho1 (below_size (by repeat (first | (with_reducible first | exact HB.out | apply below_alloc | apply pw_below_drewN | apply below_drew1 | refine below_set ?_ GE552.out | refine below_set ?_ GE553.out | refine below_set ?_ GE554.out) | exact HB.out)))); replace BK552 := zA (blk_below (g := gb552) (o := .cells #[.bool a0_0, .slice A0_1 l0_1.length c0_1, .slice A0_2 l0_2.length c0_2] 52 (0, 0)) (by exact zK BK552) hb); replace BK553 := zA (blk_below (g := gb553) (o := .cells #[.bool a1_0, .slice A1_1 l1_1.length c1_1, .slice A1_2 l1_2.length c1_2] 52 (0, 0)) (by exact zK BK553) hb); replace BK554 := zA (blk_below (g := gb554) (o := .cells #[.bool false, .slice none 0 0, .slice none 0 0] 52 (0, 0)) (by exact zK BK554) hb); replace HB := zA (below_step (by repeat (first | (with_reducible first | exact HB.out | apply below_alloc | apply pw_below_drewN | apply below_drew1 | refine below_set ?_ GE552.out | refine below_set ?_ GE553.out | refine below_set ?_ GE554.out) | exact HB.out)) hb); (try clear hb ho0 ho1); have hcz60_0 : w59.cell? ⟨gb552, 0, none⟩ = some (.bool a0_0) := (blk_cell BK552.out 0).trans rfl; have hcz60_1 : w59.cell? ⟨gb552, 1, none⟩ = some (.slice A0_1 l0_1.length c0_1) := (blk_cell BK552.out 1).trans rfl; have hcz60_2 : w59.cell? ⟨gb552, 2, none⟩ = some (.slice A0_2 l0_2.length c0_2) := (blk_cell BK552.out 2).trans rfl; have hfz60_0 := blk_frozen BK552.out 0; have hfz60_1 := blk_frozen BK552.out 1; have hfz60_2 := blk_frozen BK552.out 2; obtain ⟨Ao61, co61, eo61⟩ := Kd.R_slice HO558.out; subst eo61; obtain ⟨Ao62, co62, eo62⟩ := Kd.R_slice HO561.out; subst eo62; have hnb63 := NB553_554.out; have hnc63 := NB554_553.out; have hcz64_0 : w59.cell? ⟨gb553, 0, none⟩ = some (.bool a1_0) := (blk_cell BK553.out 0).trans rfl; have hcz64_1 : w59.cell? ⟨gb553, 1, none⟩ = some (.slice A1_1 l1_1.length c1_1) := (blk_cell BK553.out 1).trans rfl; have hcz64_2 : w59.cell? ⟨gb553, 2, none⟩ = some (.slice A1_2 l1_2.length c1_2) := (blk_cell BK553.out 2).trans rfl; have hfz64_0 := blk_frozen BK553.out 0; have hfz64_1 := blk_frozen BK553.out 1; have hfz64_2 := blk_frozen BK553.out 2) | ((with_reducible refine gate_callee (f := 83) rfl ?_); refine goesL_ (some 11) rfl rfl Try.func83 (by kernel_rfl) rfl #[.agg #[.bool a1_0, .slice A1_1 l1_1.length c1_1, .slice A1_2 l1_2.length c1_2]] rfl (by (try simp only [List.map_toArray, List.map_cons, List.map_nil]); first | done | rfl | (simp only [List.length_drop, List.length_take]; rfl)) ?_; (with_reducible refine (codewrightref02_Trim.calls k a1_0 _ _ l1_1 _ _ l1_2 t562 t563 t566 _ ?side1 ?side2 ?side3 ?side4 A4.out).mono ?_); (case side1 => exact Kd.C_below HR1_1.out (by repeat (first | (with_reducible first | exact HB.out | apply below_alloc | apply pw_below_drewN | apply below_drew1 | refine below_set ?_ GE552.out | refine below_set ?_ GE553.out | refine below_set ?_ GE554.out) | exact HB.out))); (case side2 => exact HC1_1.out); (case side3 => exact Kd.C_below HR1_2.out (by repeat (first | (with_reducible first | exact HB.out | apply below_alloc | apply pw_below_drewN | apply below_drew1 | refine below_set ?_ GE552.out | refine below_set ?_ GE553.out | refine below_set ?_ GE554.out) | exact HB.out))); (case side4 => exact HC1_2.out); rintro e w65 ⟨v564, v567, rfl, ho0, ho1, hb⟩; refine ⟨_, rfl, ?_⟩; have HO565 := zA (Kd.R_lower (Kd.R_new' (Kd.R_new' ho0 (Kd.R_lt (by (with_reducible repeat (first | apply Kd.R_alloc | apply Kd.R_drewN | apply Kd.R_drew)); exact (Kd.R_mono (Kd.R_far (p := ⟨gb552, 2, none⟩) (Kd.R_far (p := ⟨gb552, 1, none⟩) (Kd.R_far (p := ⟨gb552, 0, none⟩) (Kd.R_types HO558.out BK552.out (by decide)) (fun _ hk => hk.2) (.bool t555)) (fun _ hk => hk.2) (.slice Ao61 t556.length co61)) (fun _ hk => hk.2) (.slice Ao62 t559.length co62)) (fun _ h_ => h_.1))))) (Kd.R_lt (by (with_reducible repeat (first | apply Kd.R_alloc | apply Kd.R_drewN | apply Kd.R_drew)); exact (Kd.R_mono (Kd.R_far (p := ⟨gb552, 2, none⟩) (Kd.R_far (p := ⟨gb552, 1, none⟩) (Kd.R_far (p := ⟨gb552, 0, none⟩) (Kd.R_types HO561.out BK552.out (by decide)) (fun _ hk => hk.2) (.bool t555)) (fun _ hk => hk.2) (.slice Ao61 t556.length co61)) (fun _ hk => hk.2) (.slice Ao62 t559.length co62)) (fun _ h_ => h_.1))))) (below_size (by repeat (first | (with_reducible first | exact HB.out | apply below_alloc | apply pw_below_drewN | apply below_drew1 | refine below_set ?_ GE552.out | refine below_set ?_ GE553.out | refine below_set ?_ GE554.out) | exact HB.out)))); have HO568 := zA (Kd.R_lower (Kd.R_new' (Kd.R_new' ho1 (Kd.R_lt (by (with_reducible repeat (first | apply Kd.R_alloc | apply Kd.R_drewN | apply Kd.R_drew)); exact (Kd.R_mono (Kd.R_far (p := ⟨gb552, 2, none⟩) (Kd.R_far (p := ⟨gb552, 1, none⟩) (Kd.R_far (p := ⟨gb552, 0, none⟩) (Kd.R_types HO558.out BK552.out (by decide)) (fun _ hk => hk.2) (.bool t555)) (fun _ hk => hk.2) (.slice Ao61 t556.length co61)) (fun _ hk => hk.2) (.slice Ao62 t559.length co62)) (fun _ h_ => h_.1))))) (Kd.R_lt (by (with_reducible repeat (first | apply Kd.R_alloc | apply Kd.R_drewN | apply Kd.R_drew)); exact (Kd.R_mono (Kd.R_far (p := ⟨gb552, 2, none⟩) (Kd.R_far (p := ⟨gb552, 1, none⟩) (Kd.R_far (p := ⟨gb552, 0, none⟩) (Kd.R_types HO561.out BK552.out (by decide)) (fun _ hk => hk.2) (.bool t555)) (fun _ hk => hk.2) (.slice Ao61 t556.length co61)) (fun _ hk => hk.2) (.slice Ao62 t559.length co62)) (fun _ h_ => h_.1))))) (below_size (by repeat (first | (with_reducible first | exact HB.out | apply below_alloc | apply pw_below_drewN | apply below_drew1 | refine below_set ?_ GE552.out | refine below_set ?_ GE553.out | refine below_set ?_ GE554.out) | exact HB.out)))); replace HO558 := zA (Kd.R_mono (Kd.R_told (Kd.R_told (Kd.R_old (by (with_reducible repeat (first | apply Kd.R_alloc | apply Kd.R_drewN | apply Kd.R_drew)); exact (Kd.R_mono (Kd.R_far (p := ⟨gb552, 2, none⟩) (Kd.R_far (p := ⟨gb552, 1, none⟩) (Kd.R_far (p := ⟨gb552, 0, none⟩) (Kd.R_types HO558.out BK552.out (by decide)) (fun _ hk => hk.2) (.bool t555)) (fun _ hk => hk.2) (.slice Ao61 t556.length co61)) (fun _ hk => hk.2) (.slice Ao62 t559.length co62)) (fun _ h_ => h_.1))) hb) (Kd.R_base ho0)) (Kd.R_base ho1)) (fun _ h_ => h_.1)); replace HO561 := zA (Kd.R_mono (Kd.R_told (Kd.R_told (Kd.R_old (by (with_reducible repeat (first | apply Kd.R_alloc | apply Kd.R_drewN | apply Kd.R_drew)); exact (Kd.R_mono (Kd.R_far (p := ⟨gb552, 2, none⟩) (Kd.R_far (p := ⟨gb552, 1, none⟩) (Kd.R_far (p := ⟨gb552, 0, none⟩) (Kd.R_types HO561.out BK552.out (by decide)) (fun _ hk => hk.2) (.bool t555)) (fun _ hk => hk.2) (.slice Ao61 t556.length co61)) (fun _ hk => hk.2) (.slice Ao62 t559.length co62)) (fun _ h_ => h_.1))) hb) (Kd.R_base ho0)) (Kd.R_base ho1)) (fun _ h_ => h_.1)); replace BK552 := zA (blk_below (g := gb552) (o := .cells #[.bool t555, .slice Ao61 t556.length co61, .slice Ao62 t559.length co62] 52 (0, 0)) (by (with_reducible repeat (first | refine blk_drewN ?_ _ | refine blk_drew ?_ | refine blk_alloc ?_ _)); refine blk_put (cs := #[.bool t555, .slice Ao61 t556.length co61, .slice A0_2 l0_2.length c0_2]) ?_ 2 _ rfl; (with_reducible repeat (first | refine blk_drewN ?_ _ | refine blk_drew ?_ | refine blk_alloc ?_ _)); refine blk_put (cs := #[.bool t555, .slice A0_1 l0_1.length c0_1, .slice A0_2 l0_2.length c0_2]) ?_ 1 _ rfl; (with_reducible repeat (first | refine blk_drewN ?_ _ | refine blk_drew ?_ | refine blk_alloc ?_ _)); refine blk_put (cs := #[.bool a0_0, .slice A0_1 l0_1.length c0_1, .slice A0_2 l0_2.length c0_2]) ?_ 0 _ rfl; exact zK BK552) hb); replace BK553 := zA (blk_below (g := gb553) (o := .cells #[.bool a1_0, .slice A1_1 l1_1.length c1_1, .slice A1_2 l1_2.length c1_2] 52 (0, 0)) (by (with_reducible repeat (first | refine blk_drewN ?_ _ | refine blk_drew ?_ | refine blk_alloc ?_ _)); refine blk_far ?_ NB553_552.out _; (with_reducible repeat (first | refine blk_drewN ?_ _ | refine blk_drew ?_ | refine blk_alloc ?_ _)); refine blk_far ?_ NB553_552.out _; (with_reducible repeat (first | refine blk_drewN ?_ _ | refine blk_drew ?_ | refine blk_alloc ?_ _)); refine blk_far ?_ NB553_552.out _; exact zK BK553) hb); replace BK554 := zA (blk_below (g := gb554) (o := .cells #[.bool false, .slice none 0 0, .slice none 0 0] 52 (0, 0)) (by (with_reducible repeat (first | refine blk_drewN ?_ _ | refine blk_drew ?_ | refine blk_alloc ?_ _)); refine blk_far ?_ NB554_552.out _; (with_reducible repeat (first | refine blk_drewN ?_ _ | refine blk_drew ?_ | refine blk_alloc ?_ _)); refine blk_far ?_ NB554_552.out _; (with_reducible repeat (first | refine blk_drewN ?_ _ | refine blk_drew ?_ | refine blk_alloc ?_ _)); refine blk_far ?_ NB554_552.out _; exact zK BK554) hb); replace HB := zA (below_step (by repeat (first | (with_reducible first | exact HB.out | apply below_alloc | apply pw_below_drewN | apply below_drew1 | refine below_set ?_ GE552.out | refine below_set ?_ GE553.out | refine below_set ?_ GE554.out) | exact HB.out)) hb); (try clear hb ho0 ho1); have hcz66_0 : w65.cell? ⟨gb553, 0, none⟩ = some (.bool a1_0) := (blk_cell BK553.out 0).trans rfl; have hcz66_1 : w65.cell? ⟨gb553, 1, none⟩ = some (.slice A1_1 l1_1.length c1_1) := (blk_cell BK553.out 1).trans rfl; have hcz66_2 : w65.cell? ⟨gb553, 2, none⟩ = some (.slice A1_2 l1_2.length c1_2) := (blk_cell BK553.out 2).trans rfl; have hfz66_0 := blk_frozen BK553.out 0; have hfz66_1 := blk_frozen BK553.out 1; have hfz66_2 := blk_frozen BK553.out 2; obtain ⟨Ao67, co67, eo67⟩ := Kd.R_slice HO565.out; subst eo67; obtain ⟨Ao68, co68, eo68⟩ := Kd.R_slice HO568.out; subst eo68; have hcz69_0 : w65.cell? ⟨gb552, 0, none⟩ = some (.bool t555) := (blk_cell BK552.out 0).trans rfl; have hcz69_1 : w65.cell? ⟨gb552, 1, none⟩ = some (.slice Ao61 t556.length co61) := (blk_cell BK552.out 1).trans rfl; have hcz69_2 : w65.cell? ⟨gb552, 2, none⟩ = some (.slice Ao62 t559.length co62) := (blk_cell BK552.out 2).trans rfl; have hfz69_0 := blk_frozen BK552.out 0; have hfz69_1 := blk_frozen BK552.out 1; have hfz69_2 := blk_frozen BK552.out 2) | ((with_reducible refine gate_callee (f := 47) rfl ?_); refine goesL_ (some 16) rfl rfl Try.func47 (by kernel_rfl) rfl #[.slice Ao61 t556.length co61, .slice Ao68 t566.length co68] rfl (by (try simp only [List.map_toArray, List.map_cons, List.map_nil]); first | done | rfl | (simp only [List.length_drop, List.length_take]; rfl)) ?_; (with_reducible refine (codewrightref01_Mul.calls k _ _ t556 _ _ t566 t569 _ ?side1 ?side2 ?side3 ?side4 A5.out).mono ?_); (case side1 => refine (Kd.R_reads' (e := 79) (base := w.heap.size) (ok := fun k_ => ((some k_ ≠ (.slice Ao62 t559.length co62 : Value).ownBlock ∧ some k_ ≠ (.slice Ao67 t563.length co67 : Value).ownBlock) ∧ some k_ ≠ (.slice Ao68 t566.length co68 : Value).ownBlock)) (n := t556.length) (c := co61) ?_).2.2; exact (by (with_reducible repeat (first | apply Kd.R_alloc | apply Kd.R_drewN | apply Kd.R_drew)); exact (Kd.R_mono (Kd.R_far (p := ⟨gb553, 2, none⟩) (Kd.R_far (p := ⟨gb553, 1, none⟩) (Kd.R_far (p := ⟨gb553, 0, none⟩) (Kd.R_types HO558.out BK553.out (by decide)) (fun _ hk => hk.2) (.bool t562)) (fun _ hk => hk.2) (.slice Ao67 t563.length co67)) (fun _ hk => hk.2) (.slice Ao68 t566.length co68)) (fun _ h_ => h_.1)))); (case side2 => exact (Kd.R_reads' HO558.out).2.1); (case side3 => refine (Kd.R_reads' (e := 79) (base := w.heap.size) (ok := fun k_ => ((some k_ ≠ (.slice Ao67 t563.length co67 : Value).ownBlock ∧ some k_ ≠ (.slice Ao61 t556.length co61 : Value).ownBlock) ∧ some k_ ≠ (.slice Ao62 t559.length co62 : Value).ownBlock)) (n := t566.length) (c := co68) ?_).2.2; exact (by (with_reducible repeat (first | apply Kd.R_alloc | apply Kd.R_drewN | apply Kd.R_drew)); exact (Kd.R_mono (Kd.R_far (p := ⟨gb553, 2, none⟩) (Kd.R_far (p := ⟨gb553, 1, none⟩) (Kd.R_far (p := ⟨gb553, 0, none⟩) (Kd.R_types HO568.out BK553.out (by decide)) (fun _ hk => hk.2) (.bool t562)) (fun _ hk => hk.2) (.slice Ao67 t563.length co67)) (fun _ hk => hk.2) (.slice Ao68 t566.length co68)) (fun _ h_ => h_.1)))); (case side4 => exact (Kd.R_reads' HO568.out).2.1); rintro e w70 ⟨v570, rfl, ho0, hb⟩; refine ⟨_, rfl, ?_⟩; have HO571 := zA (Kd.R_lower (Kd.R_new' (Kd.R_new' (Kd.R_new' (Kd.R_new' ho0 (Kd.R_lt (by (with_reducible repeat (first | apply Kd.R_alloc | apply Kd.R_drewN | apply Kd.R_drew)); exact (Kd.R_mono (Kd.R_far (p := ⟨gb553, 2, none⟩) (Kd.R_far (p := ⟨gb553, 1, none⟩) (Kd.R_far (p := ⟨gb553, 0, none⟩) (Kd.R_types HO558.out BK553.out (by decide)) (fun _ hk => hk.2) (.bool t562)) (fun _ hk => hk.2) (.slice Ao67 t563.length co67)) (fun _ hk => hk.2) (.slice Ao68 t566.length co68)) (fun _ h_ => h_.1))))) (Kd.R_lt (by (with_reducible repeat (first | apply Kd.R_alloc | apply Kd.R_drewN | apply Kd.R_drew)); exact (Kd.R_mono (Kd.R_far (p := ⟨gb553, 2, none⟩) (Kd.R_far (p := ⟨gb553, 1, none⟩) (Kd.R_far (p := ⟨gb553, 0, none⟩) (Kd.R_types HO561.out BK553.out (by decide)) (fun _ hk => hk.2) (.bool t562)) (fun _ hk => hk.2) (.slice Ao67 t563.length co67)) (fun _ hk => hk.2) (.slice Ao68 t566.length co68)) (fun _ h_ => h_.1))))) (Kd.R_lt (by (with_reducible repeat (first | apply Kd.R_alloc | apply Kd.R_drewN | apply Kd.R_drew)); exact (Kd.R_mono (Kd.R_far (p := ⟨gb553, 2, none⟩) (Kd.R_far (p := ⟨gb553, 1, none⟩) (Kd.R_far (p := ⟨gb553, 0, none⟩) (Kd.R_types HO565.out BK553.out (by decide)) (fun _ hk => hk.2) (.bool t562)) (fun _ hk => hk.2) (.slice Ao67 t563.length co67)) (fun _ hk => hk.2) (.slice Ao68 t566.length co68)) (fun _ h_ => h_.1))))) (Kd.R_lt (by (with_reducible repeat (first | apply Kd.R_alloc | apply Kd.R_drewN | apply Kd.R_drew)); exact (Kd.R_mono (Kd.R_far (p := ⟨gb553, 2, none⟩) (Kd.R_far (p := ⟨gb553, 1, none⟩) (Kd.R_far (p := ⟨gb553, 0, none⟩) (Kd.R_types HO568.out BK553.out (by decide)) (fun _ hk => hk.2) (.bool t562)) (fun _ hk => hk.2) (.slice Ao67 t563.length co67)) (fun _ hk => hk.2) (.slice Ao68 t566.length co68)) (fun _ h_ => h_.1))))) (below_size (by repeat (first | (with_reducible first | exact HB.out | apply below_alloc | apply pw_below_drewN | apply below_drew1 | refine below_set ?_ GE552.out | refine below_set ?_ GE553.out | refine below_set ?_ GE554.out) | exact HB.out)))); replace HO558 := zA (Kd.R_elder' (by (with_reducible repeat (first | apply Kd.R_alloc | apply Kd.R_drewN | apply Kd.R_drew)); exact (Kd.R_mono (Kd.R_far (p := ⟨gb553, 2, none⟩) (Kd.R_far (p := ⟨gb553, 1, none⟩) (Kd.R_far (p := ⟨gb553, 0, none⟩) (Kd.R_types HO558.out BK553.out (by decide)) (fun _ hk => hk.2) (.bool t562)) (fun _ hk => hk.2) (.slice Ao67 t563.length co67)) (fun _ hk => hk.2) (.slice Ao68 t566.length co68)) (fun _ h_ => h_.1))) (Kd.R_base ho0) hb); replace HO561 := zA (Kd.R_elder' (by (with_reducible repeat (first | apply Kd.R_alloc | apply Kd.R_drewN | apply Kd.R_drew)); exact (Kd.R_mono (Kd.R_far (p := ⟨gb553, 2, none⟩) (Kd.R_far (p := ⟨gb553, 1, none⟩) (Kd.R_far (p := ⟨gb553, 0, none⟩) (Kd.R_types HO561.out BK553.out (by decide)) (fun _ hk => hk.2) (.bool t562)) (fun _ hk => hk.2) (.slice Ao67 t563.length co67)) (fun _ hk => hk.2) (.slice Ao68 t566.length co68)) (fun _ h_ => h_.1))) (Kd.R_base ho0) hb); replace HO565 := zA (Kd.R_elder' (by (with_reducible repeat (first | apply Kd.R_alloc | apply Kd.R_drewN | apply Kd.R_drew)); exact (Kd.R_mono (Kd.R_far (p := ⟨gb553, 2, none⟩) (Kd.R_far (p := ⟨gb553, 1, none⟩) (Kd.R_far (p := ⟨gb553, 0, none⟩) (Kd.R_types HO565.out BK553.out (by decide)) (fun _ hk => hk.2) (.bool t562)) (fun _ hk => hk.2) (.slice Ao67 t563.length co67)) (fun _ hk => hk.2) (.slice Ao68 t566.length co68)) (fun _ h_ => h_.1))) (Kd.R_base ho0) hb); replace HO568 := zA (Kd.R_elder' (by (with_reducible repeat (first | apply Kd.R_alloc | apply Kd.R_drewN | apply Kd.R_drew)); exact (Kd.R_mono (Kd.R_far (p := ⟨gb553, 2, none⟩) (Kd.R_far (p := ⟨gb553, 1, none⟩) (Kd.R_far (p := ⟨gb553, 0, none⟩) (Kd.R_types HO568.out BK553.out (by decide)) (fun _ hk => hk.2) (.bool t562)) (fun _ hk => hk.2) (.slice Ao67 t563.length co67)) (fun _ hk => hk.2) (.slice Ao68 t566.length co68)) (fun _ h_ => h_.1))) (Kd.R_base ho0) hb); replace BK552 := zA (blk_below (g := gb552) (o := .cells #[.bool t555, .slice Ao61 t556.length co61, .slice Ao62 t559.length co62] 52 (0, 0)) (by (with_reducible repeat (first | refine blk_drewN ?_ _ | refine blk_drew ?_ | refine blk_alloc ?_ _)); refine blk_far ?_ NB552_553.out _; (with_reducible repeat (first | refine blk_drewN ?_ _ | refine blk_drew ?_ | refine blk_alloc ?_ _)); refine blk_far ?_ NB552_553.out _; (with_reducible repeat (first | refine blk_drewN ?_ _ | refine blk_drew ?_ | refine blk_alloc ?_ _)); refine blk_far ?_ NB552_553.out _; exact zK BK552) hb); replace BK553 := zA (blk_below (g := gb553) (o := .cells #[.bool t562, .slice Ao67 t563.length co67, .slice Ao68 t566.length co68] 52 (0, 0)) (by (with_reducible repeat (first | refine blk_drewN ?_ _ | refine blk_drew ?_ | refine blk_alloc ?_ _)); refine blk_put (cs := #[.bool t562, .slice Ao67 t563.length co67, .slice A1_2 l1_2.length c1_2]) ?_ 2 _ rfl; (with_reducible repeat (first | refine blk_drewN ?_ _ | refine blk_drew ?_ | refine blk_alloc ?_ _)); refine blk_put (cs := #[.bool t562, .slice A1_1 l1_1.length c1_1, .slice A1_2 l1_2.length c1_2]) ?_ 1 _ rfl; (with_reducible repeat (first | refine blk_drewN ?_ _ | refine blk_drew ?_ | refine blk_alloc ?_ _)); refine blk_put (cs := #[.bool a1_0, .slice A1_1 l1_1.length c1_1, .slice A1_2 l1_2.length c1_2]) ?_ 0 _ rfl; exact zK BK553) hb); replace BK554 := zA (blk_below (g := gb554) (o := .cells #[.bool false, .slice none 0 0, .slice none 0 0] 52 (0, 0)) (by (with_reducible repeat (first | refine blk_drewN ?_ _ | refine blk_drew ?_ | refine blk_alloc ?_ _)); refine blk_far ?_ NB554_553.out _; (with_reducible repeat (first | refine blk_drewN ?_ _ | refine blk_drew ?_ | refine blk_alloc ?_ _)); refine blk_far ?_ NB554_553.out _; (with_reducible repeat (first | refine blk_drewN ?_ _ | refine blk_drew ?_ | refine blk_alloc ?_ _)); refine blk_far ?_ NB554_553.out _; exact zK BK554) hb); replace HB := zA (below_step (by repeat (first | (with_reducible first | exact HB.out | apply below_alloc | apply pw_below_drewN | apply below_drew1 | refine below_set ?_ GE552.out | refine below_set ?_ GE553.out | refine below_set ?_ GE554.out) | exact HB.out)) hb); (try clear hb ho0); have hcz71_0 : w70.cell? ⟨gb553, 0, none⟩ = some (.bool t562) := (blk_cell BK553.out 0).trans rfl; have hcz71_1 : w70.cell? ⟨gb553, 1, none⟩ = some (.slice Ao67 t563.length co67) := (blk_cell BK553.out 1).trans rfl; have hcz71_2 : w70.cell? ⟨gb553, 2, none⟩ = some (.slice Ao68 t566.length co68) := (blk_cell BK553.out 2).trans rfl; have hfz71_0 := blk_frozen BK553.out 0; have hfz71_1 := blk_frozen BK553.out 1; have hfz71_2 := blk_frozen BK553.out 2; have hcz72_0 : w70.cell? ⟨gb552, 0, none⟩ = some (.bool t555) := (blk_cell BK552.out 0).trans rfl; have hcz72_1 : w70.cell? ⟨gb552, 1, none⟩ = some (.slice Ao61 t556.length co61) := (blk_cell BK552.out 1).trans rfl; have hcz72_2 : w70.cell? ⟨gb552, 2, none⟩ = some (.slice Ao62 t559.length co62) := (blk_cell BK552.out 2).trans rfl; have hfz72_0 := blk_frozen BK552.out 0; have hfz72_1 := blk_frozen BK552.out 1; have hfz72_2 := blk_frozen BK552.out 2) | ((with_reducible refine gate_callee (f := 47) rfl ?_); refine goesL_ (some 21) rfl rfl Try.func47 (by kernel_rfl) rfl #[.slice Ao67 t563.length co67, .slice Ao62 t559.length co62] rfl (by (try simp only [List.map_toArray, List.map_cons, List.map_nil]); first | done | rfl | (simp only [List.length_drop, List.length_take]; rfl)) ?_; (with_reducible refine (codewrightref01_Mul.calls k _ _ t563 _ _ t559 t572 _ ?side1 ?side2 ?side3 ?side4 A6.out).mono ?_); (case side1 => exact zC ((Kd.R_reads' HO565.out).2.2)); (case side2 => exact (Kd.R_reads' HO565.out).2.1); (case side3 => exact zC ((Kd.R_reads' HO561.out).2.2)); (case side4 => exact (Kd.R_reads' HO561.out).2.1); rintro e w73 ⟨v573, rfl, ho0, hb⟩; refine ⟨_, rfl, ?_⟩; have HO574 := zA (Kd.R_lower (Kd.R_new' (Kd.R_new' (Kd.R_new' (Kd.R_new' (Kd.R_new' ho0 (Kd.R_lt (by exact zR HO558))) (Kd.R_lt (by exact zR HO561))) (Kd.R_lt (by exact zR HO565))) (Kd.R_lt (by exact zR HO568))) (Kd.R_lt (by exact zR HO571))) (below_size (by repeat (first | (with_reducible first | exact HB.out | apply below_alloc | apply pw_below_drewN | apply below_drew1 | refine below_set ?_ GE552.out | refine below_set ?_ GE553.out | refine below_set ?_ GE554.out) | exact HB.out)))); replace HO558 := zA (Kd.R_elder' (by exact zR HO558) (Kd.R_base ho0) hb); replace HO561 := zA (Kd.R_elder' (by exact zR HO561) (Kd.R_base ho0) hb); replace HO565 := zA (Kd.R_elder' (by exact zR HO565) (Kd.R_base ho0) hb); replace HO568 := zA (Kd.R_elder' (by exact zR HO568) (Kd.R_base ho0) hb); replace HO571 := zA (Kd.R_elder' (by exact zR HO571) (Kd.R_base ho0) hb); replace BK552 := zA (blk_below (g := gb552) (o := .cells #[.bool t555, .slice Ao61 t556.length co61, .slice Ao62 t559.length co62] 52 (0, 0)) (by exact zK BK552) hb); replace BK553 := zA (blk_below (g := gb553) (o := .cells #[.bool t562, .slice Ao67 t563.length co67, .slice Ao68 t566.length co68] 52 (0, 0)) (by exact zK BK553) hb); replace BK554 := zA (blk_below (g := gb554) (o := .cells #[.bool false, .slice none 0 0, .slice none 0 0] 52 (0, 0)) (by exact zK BK554) hb); replace HB := zA (below_step (by repeat (first | (with_reducible first | exact HB.out | apply below_alloc | apply pw_below_drewN | apply below_drew1 | refine below_set ?_ GE552.out | refine below_set ?_ GE553.out | refine below_set ?_ GE554.out) | exact HB.out)) hb); (try clear hb ho0); have hcz74_0 : w73.cell? ⟨gb552, 0, none⟩ = some (.bool t555) := (blk_cell BK552.out 0).trans rfl; have hcz74_1 : w73.cell? ⟨gb552, 1, none⟩ = some (.slice Ao61 t556.length co61) := (blk_cell BK552.out 1).trans rfl; have hcz74_2 : w73.cell? ⟨gb552, 2, none⟩ = some (.slice Ao62 t559.length co62) := (blk_cell BK552.out 2).trans rfl; have hfz74_0 := blk_frozen BK552.out 0; have hfz74_1 := blk_frozen BK552.out 1; have hfz74_2 := blk_frozen BK552.out 2; have hcz75_0 : w73.cell? ⟨gb553, 0, none⟩ = some (.bool t562) := (blk_cell BK553.out 0).trans rfl; have hcz75_1 : w73.cell? ⟨gb553, 1, none⟩ = some (.slice Ao67 t563.length co67) := (blk_cell BK553.out 1).trans rfl; have hcz75_2 : w73.cell? ⟨gb553, 2, none⟩ = some (.slice Ao68 t566.length co68) := (blk_cell BK553.out 2).trans rfl; have hfz75_0 := blk_frozen BK553.out 0; have hfz75_1 := blk_frozen BK553.out 1; have hfz75_2 := blk_frozen BK553.out 2) | ((with_reducible refine gate_callee (f := 47) rfl ?_); refine goesL_ (some 26) rfl rfl Try.func47 (by kernel_rfl) rfl #[.slice Ao62 t559.length co62, .slice Ao68 t566.length co68] rfl (by (try simp only [List.map_toArray, List.map_cons, List.map_nil]); first | done | rfl | (simp only [List.length_drop, List.length_take]; rfl)) ?_; (with_reducible refine (codewrightref01_Mul.calls k _ _ t559 _ _ t566 t575 _ ?side1 ?side2 ?side3 ?side4 A7.out).mono ?_); (case side1 => exact zC ((Kd.R_reads' HO561.out).2.2)); (case side2 => exact (Kd.R_reads' HO561.out).2.1); (case side3 => exact zC ((Kd.R_reads' HO568.out).2.2)); (case side4 => exact (Kd.R_reads' HO568.out).2.1); rintro e w76 ⟨v576, rfl, ho0, hb⟩; refine ⟨_, rfl, ?_⟩; have HO577 := zA (Kd.R_lower (Kd.R_new' (Kd.R_new' (Kd.R_new' (Kd.R_new' (Kd.R_new' (Kd.R_new' ho0 (Kd.R_lt (by exact zR HO558))) (Kd.R_lt (by exact zR HO561))) (Kd.R_lt (by exact zR HO565))) (Kd.R_lt (by exact zR HO568))) (Kd.R_lt (by exact zR HO571))) (Kd.R_lt (by exact zR HO574))) (below_size (by repeat (first | (with_reducible first | exact HB.out | apply below_alloc | apply pw_below_drewN | apply below_drew1 | refine below_set ?_ GE552.out | refine below_set ?_ GE553.out | refine below_set ?_ GE554.out) | exact HB.out)))); replace HO558 := zA (Kd.R_elder' (by exact zR HO558) (Kd.R_base ho0) hb); replace HO561 := zA (Kd.R_elder' (by exact zR HO561) (Kd.R_base ho0) hb); replace HO565 := zA (Kd.R_elder' (by exact zR HO565) (Kd.R_base ho0) hb); replace HO568 := zA (Kd.R_elder' (by exact zR HO568) (Kd.R_base ho0) hb); replace HO571 := zA (Kd.R_elder' (by exact zR HO571) (Kd.R_base ho0) hb); replace HO574 := zA (Kd.R_elder' (by exact zR HO574) (Kd.R_base ho0) hb); replace BK552 := zA (blk_below (g := gb552) (o := .cells #[.bool t555, .slice Ao61 t556.length co61, .slice Ao62 t559.length co62] 52 (0, 0)) (by exact zK BK552) hb); replace BK553 := zA (blk_below (g := gb553) (o := .cells #[.bool t562, .slice Ao67 t563.length co67, .slice Ao68 t566.length co68] 52 (0, 0)) (by exact zK BK553) hb); replace BK554 := zA (blk_below (g := gb554) (o := .cells #[.bool false, .slice none 0 0, .slice none 0 0] 52 (0, 0)) (by exact zK BK554) hb); replace HB := zA (below_step (by repeat (first | (with_reducible first | exact HB.out | apply below_alloc | apply pw_below_drewN | apply below_drew1 | refine below_set ?_ GE552.out | refine below_set ?_ GE553.out | refine below_set ?_ GE554.out) | exact HB.out)) hb); (try clear hb ho0); have hcz77_0 : w76.cell? ⟨gb552, 0, none⟩ = some (.bool t555) := (blk_cell BK552.out 0).trans rfl; have hcz77_1 : w76.cell? ⟨gb552, 1, none⟩ = some (.slice Ao61 t556.length co61) := (blk_cell BK552.out 1).trans rfl; have hcz77_2 : w76.cell? ⟨gb552, 2, none⟩ = some (.slice Ao62 t559.length co62) := (blk_cell BK552.out 2).trans rfl; have hfz77_0 := blk_frozen BK552.out 0; have hfz77_1 := blk_frozen BK552.out 1; have hfz77_2 := blk_frozen BK552.out 2; have hcz78_0 : w76.cell? ⟨gb553, 0, none⟩ = some (.bool t562) := (blk_cell BK553.out 0).trans rfl; have hcz78_1 : w76.cell? ⟨gb553, 1, none⟩ = some (.slice Ao67 t563.length co67) := (blk_cell BK553.out 1).trans rfl; have hcz78_2 : w76.cell? ⟨gb553, 2, none⟩ = some (.slice Ao68 t566.length co68) := (blk_cell BK553.out 2).trans rfl; have hfz78_0 := blk_frozen BK553.out 0; have hfz78_1 := blk_frozen BK553.out 1; have hfz78_2 := blk_frozen BK553.out 2; obtain ⟨Ao79, co79, eo79⟩ := Kd.R_slice HO571.out; subst eo79; obtain ⟨Ao80, co80, eo80⟩ := Kd.R_slice HO574.out; subst eo80) | ((with_reducible refine gate_callee (f := 70) rfl ?_); refine goesL_ (some 41) rfl rfl Try.func70 (by kernel_rfl) rfl #[.slice Ao79 t569.length co79, .slice Ao80 t572.length co80] rfl (by (try simp only [List.map_toArray, List.map_cons, List.map_nil]); first | done | rfl | (simp only [List.length_drop, List.length_take]; rfl)) ?_; (with_reducible refine (codewrightref01_Cmp.calls k _ _ t569 _ _ t572 t588 _ ?side1 ?side2 ?side3 ?side4 A49.out).mono ?_); (case side1 => exact zC ((Kd.R_reads' HO571.out).2.2)); (case side2 => exact (Kd.R_reads' HO571.out).2.1); (case side3 => exact zC ((Kd.R_reads' HO574.out).2.2)); (case side4 => exact (Kd.R_reads' HO574.out).2.1); rintro e w81 ⟨rfl, hb⟩; refine ⟨_, rfl, ?_⟩; replace HO558 := zA (Kd.R_below (by exact zR HO558) hb); replace HO561 := zA (Kd.R_below (by exact zR HO561) hb); replace HO565 := zA (Kd.R_below (by exact zR HO565) hb); replace HO568 := zA (Kd.R_below (by exact zR HO568) hb); replace HO571 := zA (Kd.R_below (by exact zR HO571) hb); replace HO574 := zA (Kd.R_below (by exact zR HO574) hb); replace HO577 := zA (Kd.R_below (by exact zR HO577) hb); replace BK552 := zA (blk_below (g := gb552) (o := .cells #[.bool t555, .slice Ao61 t556.length co61, .slice Ao62 t559.length co62] 52 (0, 0)) (by exact zK BK552) hb); replace BK553 := zA (blk_below (g := gb553) (o := .cells #[.bool t562, .slice Ao67 t563.length co67, .slice Ao68 t566.length co68] 52 (0, 0)) (by exact zK BK553) hb); replace BK554 := zA (blk_below (g := gb554) (o := .cells #[.bool false, .slice none 0 0, .slice none 0 0] 52 (0, 0)) (by exact zK BK554) hb); replace HB := zA (below_step (by repeat (first | (with_reducible first | exact HB.out | apply below_alloc | apply pw_below_drewN | apply below_drew1 | refine below_set ?_ GE552.out | refine below_set ?_ GE553.out | refine below_set ?_ GE554.out) | exact HB.out)) hb); (try clear hb)))
   have n0_ := zA (Kd.R_drew HO558.out)
   have n1_ := zA (Kd.R_drew HO561.out)
   have n2_ := zA (Kd.R_drew HO565.out)
   have n3_ := zA (Kd.R_drew HO568.out)
   have n4_ := zA (Kd.R_drew HO571.out)
   have n5_ := zA (Kd.R_drew HO574.out)
   have n6_ := zA (Kd.R_drew HO577.out)
   have n7_ := zA (blk_drew BK552.out)
   have n8_ := zA (blk_drew BK553.out)
   have n9_ := zA (blk_drew BK554.out)
   have n10_ := zA (below_drew1 HB.out)
   clear HO558
   clear HO561
   clear HO565
   clear HO568
   clear HO571
   clear HO574
   clear HO577
   clear BK552
   clear BK553
   clear BK554
   clear HB
   have HO558 := n0_
   have HO561 := n1_
   have HO565 := n2_
   have HO568 := n3_
   have HO571 := n4_
   have HO574 := n5_
   have HO577 := n6_
   have BK552 := n7_
   have BK553 := n8_
   have BK554 := n9_
   have HB := n10_
   clear n0_ n1_ n2_ n3_ n4_ n5_ n6_ n7_ n8_ n9_ n10_
   refine start_ (n := 8) (S := fun w' => w'.cell? ⟨gb552, 0, none⟩ = some (.bool t555) ∧ w'.cell? ⟨gb552, 1, none⟩ = some (.slice Ao61 t556.length co61) ∧ w'.cell? ⟨gb552, 2, none⟩ = some (.slice Ao62 t559.length co62)) (ds := []) #[false, false, false, false, false, false, false, false] (by kernel_rfl) rfl rfl ⟨(blk_cell BK552.out 0).trans rfl, (blk_cell BK552.out 1).trans rfl, (blk_cell BK552.out 2).trans rfl⟩ (fun hHeld => ?_); refine with_tabW codewrightref02_Add.tab9 codewrightref02_Add.bits9 (fun HT_ HW_ => ?_)
   generalize w81.drew = w82 at HO558 HO561 HO565 HO568 HO571 HO574 HO577 BK552 BK553 BK554 HB hHeld ⊢
   refine pure_ (i := 0) (N := some 43) (v := ?_) (a' := ?_) #[true, false, false, false, false, false, false, false] rfl rfl (any_of HT_.out (by kernel_rfl)) (fun _ _ _ h => h) (Or.inl ⟨by rfl, ?_⟩) ?_ ?_
   rotate_left
   ·
    intro w'
    go_simp
    with_reducible rfl
   rotate_left
   ·
    simp only [Act.put, List.setIfInBounds_toArray, List.set_cons_zero, List.set_cons_succ, i64_w, i32_w]
    rfl
   refine pure_ (i := 2) (N := some 45) (v := ?_) (a' := ?_) #[true, false, true, false, false, false, false, false] rfl rfl (any_of HT_.out (by kernel_rfl)) (fun _ _ _ h => h) (Or.inl ⟨by rfl, ?_⟩) ?_ ?_
   rotate_left
   ·
    intro w'
    go_simp
    with_reducible rfl
   rotate_left
   ·
    simp only [Act.put, List.setIfInBounds_toArray, List.set_cons_zero, List.set_cons_succ, i64_w, i32_w]
    rfl
   refine pure_ (i := 3) (N := some 46) (v := ?_) (a' := ?_) #[true, false, true, true, false, false, false, false] rfl rfl (any_of HT_.out (by kernel_rfl)) (fun _ _ _ h => h) (Or.inl ⟨by rfl, ?_⟩) ?_ ?_
   rotate_left
   ·
    intro w'
    go_simp
    with_reducible rfl
   rotate_left
   ·
    simp only [Act.put, List.setIfInBounds_toArray, List.set_cons_zero, List.set_cons_succ, i64_w, i32_w]
    rfl
   refine pure_ (i := 5) (N := some 48) (v := ?_) (a' := ?_) #[true, false, true, true, false, true, false, false] rfl rfl (any_of HT_.out (by kernel_rfl)) (fun _ _ _ h => h) (Or.inl ⟨by rfl, ?_⟩) ?_ ?_
   rotate_left
   ·
    intro w'
    go_simp
    with_reducible rfl
   rotate_left
   ·
    simp only [Act.put, List.setIfInBounds_toArray, List.set_cons_zero, List.set_cons_succ, i64_w, i32_w]
    rfl
   refine take_ (i := 1) (N := some 44) (v := ?_) (a' := ?_) #[true, true, true, true, false, true, false, false] rfl rfl (take_ofW HT_.out HW_.out (by kernel_rfl)) (fun _ _ _ h => h) (Or.inl ⟨by rfl, ?_⟩) hHeld ?_ ?_
   rotate_left
   ·
    rintro w' ⟨s0, s1, s2⟩
    go_simp
    with_reducible rfl
   rotate_left
   ·
    simp only [Act.put, List.setIfInBounds_toArray, List.set_cons_zero, List.set_cons_succ, i64_w, i32_w]
    rfl
   refine one_ (i := 4) (N := some 47) #[true, true, true, true, true, true, false, false] rfl rfl (one_of HT_.out (by kernel_rfl)) (by decide) (fun K hK => ?_)
   refine goes_ Try.func86 (by kernel_rfl) rfl #[.slice Ao79 t569.length co79, .slice Ao80 t572.length co80] (by rfl) rfl rfl (by (try simp only [List.map_toArray, List.map_cons, List.map_nil]); first | done | rfl | (simp only [List.length_drop, List.length_take]; rfl)) ?_
   with_reducible refine (codewrightref01_Sub.calls k _ _ t569 _ _ t572 t589 _ ?side1 ?side2 ?side3 ?side4 A51.out).mono ?_
   (case side1 => exact zC ((Kd.R_reads' HO571.out).2.2))
   (case side2 => exact (Kd.R_reads' HO571.out).2.1)
   (case side3 => exact zC ((Kd.R_reads' HO574.out).2.2))
   (case side4 => exact (Kd.R_reads' HO574.out).2.1)
   rintro e w83 ⟨v590, rfl, ho0, hb⟩
   refine ⟨_, rfl, ?_⟩
   have n0_ := zA (Kd.R_elder' (by exact zR HO558) (Kd.R_base ho0) hb)
   have n1_ := zA (Kd.R_elder' (by exact zR HO561) (Kd.R_base ho0) hb)
   have n2_ := zA (Kd.R_elder' (by exact zR HO565) (Kd.R_base ho0) hb)
   have n3_ := zA (Kd.R_elder' (by exact zR HO568) (Kd.R_base ho0) hb)
   have n4_ := zA (Kd.R_elder' (by exact zR HO571) (Kd.R_base ho0) hb)
   have n5_ := zA (Kd.R_elder' (by exact zR HO574) (Kd.R_base ho0) hb)
   have n6_ := zA (Kd.R_elder' (by exact zR HO577) (Kd.R_base ho0) hb)
   have n7_ := zA (Kd.R_lower (Kd.R_new' (Kd.R_new' (Kd.R_new' (Kd.R_new' (Kd.R_new' (Kd.R_new' (Kd.R_new' ho0 (Kd.R_lt (by exact zR HO558))) (Kd.R_lt (by exact zR HO561))) (Kd.R_lt (by exact zR HO565))) (Kd.R_lt (by exact zR HO568))) (Kd.R_lt (by exact zR HO571))) (Kd.R_lt (by exact zR HO574))) (Kd.R_lt (by exact zR HO577))) (below_size (by repeat (first | (with_reducible first | exact HB.out | apply below_alloc | apply pw_below_drewN | apply below_drew1 | refine below_set ?_ GE552.out | refine below_set ?_ GE553.out | refine below_set ?_ GE554.out) | exact HB.out))))
   have n8_ := zA (blk_below (g := gb552) (o := .cells #[.bool t555, .slice Ao61 t556.length co61, .slice Ao62 t559.length co62] 52 (0, 0)) (by exact zK BK552) hb)
   have n9_ := zA (blk_below (g := gb553) (o := .cells #[.bool t562, .slice Ao67 t563.length co67, .slice Ao68 t566.length co68] 52 (0, 0)) (by exact zK BK553) hb)
   have n10_ := zA (blk_below (g := gb554) (o := .cells #[.bool false, .slice none 0 0, .slice none 0 0] 52 (0, 0)) (by exact zK BK554) hb)
   have n11_ := zA (below_step (by repeat (first | (with_reducible first | exact HB.out | apply below_alloc | apply pw_below_drewN | apply below_drew1 | refine below_set ?_ GE552.out | refine below_set ?_ GE553.out | refine below_set ?_ GE554.out) | exact HB.out)) hb)
   clear HO558
   clear HO561
   clear HO565
   clear HO568
   clear HO571
   clear HO574
   clear HO577
   clear BK552
   clear BK553
   clear BK554
   clear HB
   have HO558 := n0_
   have HO561 := n1_
   have HO565 := n2_
   have HO568 := n3_
   have HO571 := n4_
   have HO574 := n5_
   have HO577 := n6_
   have HO591 := n7_
   have BK552 := n8_
   have BK553 := n9_
   have BK554 := n10_
   have HB := n11_
   clear n0_ n1_ n2_ n3_ n4_ n5_ n6_ n7_ n8_ n9_ n10_ n11_
   (try clear hb)
   (try clear hb2)
   (try clear hk)
   (try clear hi)
   (try clear ho0)
   obtain ⟨Ao84, co84, eo84⟩ := Kd.R_slice HO591.out
   (first | subst eo84 | (injection eo84 with f1_ f2_ f3_; have f4_ := f1_.symm; have f5_ := f3_.symm; clear f1_ f2_ f3_; subst f4_; subst f5_))
   obtain ⟨Ao85, co85, eo85⟩ := Kd.R_slice HO577.out
   (first | subst eo85 | (injection eo85 with f1_ f2_ f3_; have f4_ := f1_.symm; have f5_ := f3_.symm; clear f1_ f2_ f3_; subst f4_; subst f5_))
   refine hK.out _ _ ⟨(blk_cell BK552.out 0).trans rfl, (blk_cell BK552.out 1).trans rfl, (blk_cell BK552.out 2).trans rfl⟩ (fun hHeld => ?_)
   clear hK K
   refine norm_ (a' := ?_) ?_ ?_
   rotate_left
   ·
    show Act.put _ (some 47) _ = _
    simp only [Act.put, List.setIfInBounds_toArray, List.set_cons_zero, List.set_cons_succ, i64_w, i32_w]
    rfl
   refine one_ (i := 6) (N := some 49) #[true, true, true, true, true, true, true, false] rfl rfl (one_of HT_.out (by kernel_rfl)) (by decide) (fun K hK => ?_)
   refine goes_ Try.func84 (by kernel_rfl) rfl #[.bool t555, .slice Ao84 t589.length co84, .slice Ao85 t575.length co85] (by rfl) rfl rfl (by (try simp only [List.map_toArray, List.map_cons, List.map_nil]); first | done | rfl | (simp only [List.length_drop, List.length_take]; rfl)) ?_
   with_reducible refine (codewrightref02_Make.calls k t555 _ _ t589 _ _ t575 t592 t593 t596 _ ?side1 ?side2 ?side3 ?side4 A52.out).mono ?_
   (case side1 => exact zC ((Kd.R_reads' HO591.out).2.2))
   (case side2 => exact (Kd.R_reads' HO591.out).2.1)
   (case side3 => exact zC ((Kd.R_reads' HO577.out).2.2))
   (case side4 => exact (Kd.R_reads' HO577.out).2.1)
   rintro e w86 ⟨v594, v597, rfl, ho0, ho1, hb⟩
   refine ⟨_, rfl, ?_⟩
   have n0_ := zA (Kd.R_mono (Kd.R_told (Kd.R_told (Kd.R_old (by exact zR HO558) hb) (Kd.R_base ho0)) (Kd.R_base ho1)) (fun _ h_ => h_.1))
   have n1_ := zA (Kd.R_mono (Kd.R_told (Kd.R_told (Kd.R_old (by exact zR HO561) hb) (Kd.R_base ho0)) (Kd.R_base ho1)) (fun _ h_ => h_.1))
   have n2_ := zA (Kd.R_mono (Kd.R_told (Kd.R_told (Kd.R_old (by exact zR HO565) hb) (Kd.R_base ho0)) (Kd.R_base ho1)) (fun _ h_ => h_.1))
   have n3_ := zA (Kd.R_mono (Kd.R_told (Kd.R_told (Kd.R_old (by exact zR HO568) hb) (Kd.R_base ho0)) (Kd.R_base ho1)) (fun _ h_ => h_.1))
   have n4_ := zA (Kd.R_mono (Kd.R_told (Kd.R_told (Kd.R_old (by exact zR HO571) hb) (Kd.R_base ho0)) (Kd.R_base ho1)) (fun _ h_ => h_.1))
   have n5_ := zA (Kd.R_mono (Kd.R_told (Kd.R_told (Kd.R_old (by exact zR HO574) hb) (Kd.R_base ho0)) (Kd.R_base ho1)) (fun _ h_ => h_.1))
   have n6_ := zA (Kd.R_mono (Kd.R_told (Kd.R_told (Kd.R_old (by exact zR HO577) hb) (Kd.R_base ho0)) (Kd.R_base ho1)) (fun _ h_ => h_.1))
   have n7_ := zA (Kd.R_mono (Kd.R_told (Kd.R_told (Kd.R_old (by exact zR HO591) hb) (Kd.R_base ho0)) (Kd.R_base ho1)) (fun _ h_ => h_.1))
   have n8_ := zA (Kd.R_lower (Kd.R_new' (Kd.R_new' (Kd.R_new' (Kd.R_new' (Kd.R_new' (Kd.R_new' (Kd.R_new' (Kd.R_new' ho0 (Kd.R_lt (by exact zR HO558))) (Kd.R_lt (by exact zR HO561))) (Kd.R_lt (by exact zR HO565))) (Kd.R_lt (by exact zR HO568))) (Kd.R_lt (by exact zR HO571))) (Kd.R_lt (by exact zR HO574))) (Kd.R_lt (by exact zR HO577))) (Kd.R_lt (by exact zR HO591))) (below_size (by repeat (first | (with_reducible first | exact HB.out | apply below_alloc | apply pw_below_drewN | apply below_drew1 | refine below_set ?_ GE552.out | refine below_set ?_ GE553.out | refine below_set ?_ GE554.out) | exact HB.out))))
   have n9_ := zA (Kd.R_lower (Kd.R_new' (Kd.R_new' (Kd.R_new' (Kd.R_new' (Kd.R_new' (Kd.R_new' (Kd.R_new' (Kd.R_new' ho1 (Kd.R_lt (by exact zR HO558))) (Kd.R_lt (by exact zR HO561))) (Kd.R_lt (by exact zR HO565))) (Kd.R_lt (by exact zR HO568))) (Kd.R_lt (by exact zR HO571))) (Kd.R_lt (by exact zR HO574))) (Kd.R_lt (by exact zR HO577))) (Kd.R_lt (by exact zR HO591))) (below_size (by repeat (first | (with_reducible first | exact HB.out | apply below_alloc | apply pw_below_drewN | apply below_drew1 | refine below_set ?_ GE552.out | refine below_set ?_ GE553.out | refine below_set ?_ GE554.out) | exact HB.out))))
   have n10_ := zA (blk_below (g := gb552) (o := .cells #[.bool t555, .slice Ao61 t556.length co61, .slice Ao62 t559.length co62] 52 (0, 0)) (by exact zK BK552) hb)
   have n11_ := zA (blk_below (g := gb553) (o := .cells #[.bool t562, .slice Ao67 t563.length co67, .slice Ao68 t566.length co68] 52 (0, 0)) (by exact zK BK553) hb)
   have n12_ := zA (blk_below (g := gb554) (o := .cells #[.bool false, .slice none 0 0, .slice none 0 0] 52 (0, 0)) (by exact zK BK554) hb)
   have n13_ := zA (below_step (by repeat (first | (with_reducible first | exact HB.out | apply below_alloc | apply pw_below_drewN | apply below_drew1 | refine below_set ?_ GE552.out | refine below_set ?_ GE553.out | refine below_set ?_ GE554.out) | exact HB.out)) hb)
   clear HO558
   clear HO561
   clear HO565
   clear HO568
   clear HO571
   clear HO574
   clear HO577
   clear HO591
   clear BK552
   clear BK553
   clear BK554
   clear HB
   have HO558 := n0_
   have HO561 := n1_
   have HO565 := n2_
   have HO568 := n3_
   have HO571 := n4_
   have HO574 := n5_
   have HO577 := n6_
   have HO591 := n7_
   have HO595 := n8_
   have HO598 := n9_
   have BK552 := n10_
   have BK553 := n11_
   have BK554 := n12_
   have HB := n13_
   clear n0_ n1_ n2_ n3_ n4_ n5_ n6_ n7_ n8_ n9_ n10_ n11_ n12_ n13_
   (try clear hb)
   (try clear hb2)
   (try clear hk)
   (try clear hi)
   (try clear ho0)
   (try clear ho1)
   obtain ⟨Ao88, co88, eo88⟩ := Kd.R_slice HO595.out
   (first | subst eo88 | (injection eo88 with f1_ f2_ f3_; have f4_ := f1_.symm; have f5_ := f3_.symm; clear f1_ f2_ f3_; subst f4_; subst f5_))
   obtain ⟨Ao90, co90, eo90⟩ := Kd.R_slice HO598.out
   (first | subst eo90 | (injection eo90 with f1_ f2_ f3_; have f4_ := f1_.symm; have f5_ := f3_.symm; clear f1_ f2_ f3_; subst f4_; subst f5_))
   refine hK.out _ _ ⟨(blk_cell BK552.out 0).trans rfl, (blk_cell BK552.out 1).trans rfl, (blk_cell BK552.out 2).trans rfl⟩ (fun hHeld => ?_)
   clear hK K
   refine norm_ (a' := ?_) ?_ ?_
   rotate_left
   ·
    show Act.put _ (some 49) _ = _
    simp only [Act.put, List.setIfInBounds_toArray, List.set_cons_zero, List.set_cons_succ, i64_w, i32_w]
    rfl
   refine one_ (i := 7) (N := none) #[true, true, true, true, true, true, true, true] rfl rfl (one_of HT_.out (by kernel_rfl)) (by decide) (fun K hK => ?_)
   have hs87 : w86.cell? ⟨gb554, 0, none⟩ = some (.bool false) := (blk_cell BK554.out 0).trans rfl
   have hfs87 := blk_frozen BK554.out 0
   have hns87_0 := NB552_554.out
   have hns87_1 := NB553_554.out
   have hms87_0 := NB554_552.out
   have hms87_1 := NB554_553.out
   have hs89 : w86.cell? ⟨gb554, 1, none⟩ = some (.slice none 0 0) := (blk_cell BK554.out 1).trans rfl
   have hfs89 := blk_frozen BK554.out 1
   have hns89_0 := NB552_554.out
   have hns89_1 := NB553_554.out
   have hms89_0 := NB554_552.out
   have hms89_1 := NB554_553.out
   have hs91 : w86.cell? ⟨gb554, 2, none⟩ = some (.slice none 0 0) := (blk_cell BK554.out 2).trans rfl
   have hfs91 := blk_frozen BK554.out 2
   have hns91_0 := NB552_554.out
   have hns91_1 := NB553_554.out
   have hms91_0 := NB554_552.out
   have hms91_1 := NB554_553.out
   refine skip_ (w1 := ?_) (by rfl) rfl ?_ ?_
   rotate_left
   ·
    go_simp
    rfl
   refine hK.out _ _ ⟨((cell_far (p := ⟨gb554, _, none⟩) NB552_554.out _).trans (((cell_far (p := ⟨gb554, _, none⟩) NB552_554.out _).trans (((cell_far (p := ⟨gb554, _, none⟩) NB552_554.out _).trans (hHeld.1)))))), ((cell_far (p := ⟨gb554, _, none⟩) NB552_554.out _).trans (((cell_far (p := ⟨gb554, _, none⟩) NB552_554.out _).trans (((cell_far (p := ⟨gb554, _, none⟩) NB552_554.out _).trans (hHeld.2.1)))))), ((cell_far (p := ⟨gb554, _, none⟩) NB552_554.out _).trans (((cell_far (p := ⟨gb554, _, none⟩) NB552_554.out _).trans (((cell_far (p := ⟨gb554, _, none⟩) NB552_554.out _).trans (hHeld.2.2))))))⟩ (fun hHeld => ?_)
   clear hK K
   refine done_ (done_of HT_.out (by kernel_rfl)) ?_
   try go_wp2
   refine bodyPost_ret (results_cell_row rfl _ _ gb554 52 #[.bool t592, .slice Ao88 t593.length co88, .slice Ao90 t596.length co90] (0, 0) _ rfl (by (with_reducible repeat (first | refine blk_drewN ?_ _ | refine blk_drew ?_ | refine blk_alloc ?_ _)); refine blk_put (cs := #[.bool t592, .slice Ao88 t593.length co88, .slice none 0 0]) ?_ 2 _ rfl; (with_reducible repeat (first | refine blk_drewN ?_ _ | refine blk_drew ?_ | refine blk_alloc ?_ _)); refine blk_put (cs := #[.bool t592, .slice none 0 0, .slice none 0 0]) ?_ 1 _ rfl; (with_reducible repeat (first | refine blk_drewN ?_ _ | refine blk_drew ?_ | refine blk_alloc ?_ _)); refine blk_put (cs := #[.bool false, .slice none 0 0, .slice none 0 0]) ?_ 0 _ rfl; exact zK BK554) Try.underlying52 rfl (by kernel_rfl)) rfl ?_
   exact ⟨_, _, by first | rfl | (simp [errW_none, errW_some] <;> rfl) | (simp [*, errW_none, errW_some] <;> rfl), by (with_reducible repeat (first | apply Kd.R_alloc | apply Kd.R_drewN | apply Kd.R_drew)); exact Kd.R_mono (Kd.R_far (p := ⟨gb554, 2, none⟩) (Kd.R_far (p := ⟨gb554, 1, none⟩) (Kd.R_far (p := ⟨gb554, 0, none⟩) (Kd.R_types HO595.out BK554.out (by decide)) (fun _ hk => hk.2) (.bool t592)) (fun _ hk => hk.2) (.slice Ao88 t593.length co88)) (fun _ hk => hk.2) (.slice Ao90 t596.length co90)) (fun _ hk => hk.1.1.1.1.1.1.1.1.1), by (with_reducible repeat (first | apply Kd.R_alloc | apply Kd.R_drewN | apply Kd.R_drew)); exact Kd.R_mono (Kd.R_far (p := ⟨gb554, 2, none⟩) (Kd.R_far (p := ⟨gb554, 1, none⟩) (Kd.R_far (p := ⟨gb554, 0, none⟩) (Kd.R_types HO598.out BK554.out (by decide)) (fun _ hk => hk.2) (.bool t592)) (fun _ hk => hk.2) (.slice Ao88 t593.length co88)) (fun _ hk => hk.2) (.slice Ao90 t596.length co90)) (fun _ hk => hk.1.1.1.1.1.1.1.1.1), by repeat (first | (with_reducible first | exact HB.out | apply below_alloc | apply pw_below_drewN | apply below_drew1 | refine below_set ?_ GE552.out | refine below_set ?_ GE553.out | refine below_set ?_ GE554.out) | exact HB.out)⟩
  ·
   rw [if_neg c50] at H
   have c50b0 : decide (0 ≤ t588) = false := decide_eq_false c50
   clear c50
   replace H := Option.bind_eq_some_iff.mp H
   obtain ⟨t599, A920, H⟩ := H
   replace H : ((codewrightref02_Make.f k t562 t599 t575).bind fun bt602 => (some (bt602.1, bt602.2.1, bt602.2.2))) = some (r1, r2, r3) := H
   have A92 := zA A920
   clear A920
   replace H := Option.bind_eq_some_iff.mp H
   obtain ⟨⟨t602, t603, t606⟩, A930, H⟩ := H
   replace H : (some (t602, t603, t606)) = some (r1, r2, r3) := H
   have A93 := zA A930
   clear A930
   simp only [Option.some.injEq, Prod.mk.injEq] at H
   obtain ⟨rfl, rfl, rfl⟩ := H
   go_enter Try.func43, Try.ntmps43
   try go_wp2_with (first | ((with_reducible refine gate_dst (N := 2) rfl ?_); refine box_event ?hg (N := 2) ?hd (cs := #[.bool a0_0, .slice A0_1 l0_1.length c0_1, .slice A0_2 l0_2.length c0_2]) (t := 52) ?hr ?_; (case hd => rfl); (case hg => rfl); (case hr => first | (go_simp; done) | (go_simp; rfl)); intro gb552 hg w94 hbox hb; have BK552 := zA (hbox); have GW552 := zA ((by rw [hg]; exact (below_size (by exact zB HB)) : w.heap.size ≤ gb552)); have GE552 := zA ((by rw [hg]; exact (below_size (by exact zB HB)) : w.heap.size ≤ gb552)); replace HB := zA (below_step (by exact zB HB) hb); clear hb hbox hg) | ((with_reducible refine gate_dst (N := 3) rfl ?_); refine box_event ?hg (N := 3) ?hd (cs := #[.bool a1_0, .slice A1_1 l1_1.length c1_1, .slice A1_2 l1_2.length c1_2]) (t := 52) ?hr ?_; (case hd => rfl); (case hg => rfl); (case hr => first | (go_simp; done) | (go_simp; rfl)); intro gb553 hg w95 hbox hb; have BK553 := zA (hbox); have GW553 := zA ((by rw [hg]; exact (below_size (by repeat (first | (with_reducible first | exact HB.out | apply below_alloc | apply pw_below_drewN | apply below_drew1 | refine below_set ?_ GE552.out) | exact HB.out))) : w.heap.size ≤ gb553)); have GE553 := zA ((by rw [hg]; exact (below_size (by repeat (first | (with_reducible first | exact HB.out | apply below_alloc | apply pw_below_drewN | apply below_drew1 | refine below_set ?_ GE552.out) | exact HB.out))) : w.heap.size ≤ gb553)); replace HB := zA (below_step (by repeat (first | (with_reducible first | exact HB.out | apply below_alloc | apply pw_below_drewN | apply below_drew1 | refine below_set ?_ GE552.out) | exact HB.out)) hb); have NB552_553 := zA ((by rw [hg]; exact Nat.ne_of_lt (blk_lt (g := gb552) (o := .cells #[.bool a0_0, .slice A0_1 l0_1.length c0_1, .slice A0_2 l0_2.length c0_2] 52 (0, 0)) (by exact zK BK552)) : gb552 ≠ gb553)); have NB553_552 := zA ((by rw [hg]; exact Nat.ne_of_gt (blk_lt (g := gb552) (o := .cells #[.bool a0_0, .slice A0_1 l0_1.length c0_1, .slice A0_2 l0_2.length c0_2] 52 (0, 0)) (by exact zK BK552)) : gb553 ≠ gb552)); replace BK552 := zA (blk_below (g := gb552) (o := .cells #[.bool a0_0, .slice A0_1 l0_1.length c0_1, .slice A0_2 l0_2.length c0_2] 52 (0, 0)) (by exact zK BK552) hb); clear hb hbox hg) | ((with_reducible refine gate_dst (N := 4) rfl ?_); refine box_event ?hg (N := 4) ?hd (cs := #[.bool false, .slice none 0 0, .slice none 0 0]) (t := 52) ?hr ?_; (case hd => rfl); (case hg => rfl); (case hr => first | (go_simp; done) | (go_simp; rfl)); intro gb554 hg w96 hbox hb; have BK554 := zA (hbox); have GW554 := zA ((by rw [hg]; exact (below_size (by repeat (first | (with_reducible first | exact HB.out | apply below_alloc | apply pw_below_drewN | apply below_drew1 | refine below_set ?_ GE552.out | refine below_set ?_ GE553.out) | exact HB.out))) : w.heap.size ≤ gb554)); have GE554 := zA ((by rw [hg]; exact (below_size (by repeat (first | (with_reducible first | exact HB.out | apply below_alloc | apply pw_below_drewN | apply below_drew1 | refine below_set ?_ GE552.out | refine below_set ?_ GE553.out) | exact HB.out))) : w.heap.size ≤ gb554)); replace HB := zA (below_step (by repeat (first | (with_reducible first | exact HB.out | apply below_alloc | apply pw_below_drewN | apply below_drew1 | refine below_set ?_ GE552.out | refine below_set ?_ GE553.out) | exact HB.out)) hb); have NB552_554 := zA ((by rw [hg]; exact Nat.ne_of_lt (blk_lt (g := gb552) (o := .cells #[.bool a0_0, .slice A0_1 l0_1.length c0_1, .slice A0_2 l0_2.length c0_2] 52 (0, 0)) (by exact zK BK552)) : gb552 ≠ gb554)); have NB554_552 := zA ((by rw [hg]; exact Nat.ne_of_gt (blk_lt (g := gb552) (o := .cells #[.bool a0_0, .slice A0_1 l0_1.length c0_1, .slice A0_2 l0_2.length c0_2] 52 (0, 0)) (by exact zK BK552)) : gb554 ≠ gb552)); replace BK552 := zA (blk_below (g := gb552) (o := .cells #[.bool a0_0, .slice A0_1 l0_1.length c0_1, .slice A0_2 l0_2.length c0_2] 52 (0, 0)) (by exact zK BK552) hb); have NB553_554 := zA ((by rw [hg]; exact Nat.ne_of_lt (blk_lt (g := gb553) (o := .cells #[.bool a1_0, .slice A1_1 l1_1.length c1_1, .slice A1_2 l1_2.length c1_2] 52 (0, 0)) (by exact zK BK553)) : gb553 ≠ gb554)); have NB554_553 := zA ((by rw [hg]; exact Nat.ne_of_gt (blk_lt (g := gb553) (o := .cells #[.bool a1_0, .slice A1_1 l1_1.length c1_1, .slice A1_2 l1_2.length c1_2] 52 (0, 0)) (by exact zK BK553)) : gb554 ≠ gb553)); replace BK553 := zA (blk_below (g := gb553) (o := .cells #[.bool a1_0, .slice A1_1 l1_1.length c1_1, .slice A1_2 l1_2.length c1_2] 52 (0, 0)) (by exact zK BK553) hb); clear hb hbox hg; have hnb97 := NB552_553.out; have hnc97 := NB553_552.out; have hnb98 := NB552_554.out; have hnc98 := NB554_552.out; have hcz99_0 : w96.cell? ⟨gb552, 0, none⟩ = some (.bool a0_0) := (blk_cell BK552.out 0).trans rfl; have hcz99_1 : w96.cell? ⟨gb552, 1, none⟩ = some (.slice A0_1 l0_1.length c0_1) := (blk_cell BK552.out 1).trans rfl; have hcz99_2 : w96.cell? ⟨gb552, 2, none⟩ = some (.slice A0_2 l0_2.length c0_2) := (blk_cell BK552.out 2).trans rfl; have hfz99_0 := blk_frozen BK552.out 0; have hfz99_1 := blk_frozen BK552.out 1; have hfz99_2 := blk_frozen BK552.out 2) | ((with_reducible refine gate_callee (f := 83) rfl ?_); refine goesL_ (some 9) rfl rfl Try.func83 (by kernel_rfl) rfl #[.agg #[.bool a0_0, .slice A0_1 l0_1.length c0_1, .slice A0_2 l0_2.length c0_2]] rfl (by (try simp only [List.map_toArray, List.map_cons, List.map_nil]); first | done | rfl | (simp only [List.length_drop, List.length_take]; rfl)) ?_; (with_reducible refine (codewrightref02_Trim.calls k a0_0 _ _ l0_1 _ _ l0_2 t555 t556 t559 _ ?side1 ?side2 ?side3 ?side4 A3.out).mono ?_); (case side1 => exact zC ((Kd.C_below HR0_1.out HB.out))); (case side2 => exact HC0_1.out); (case side3 => exact zC ((Kd.C_below HR0_2.out HB.out))); (case side4 => exact HC0_2.out); rintro e w100 ⟨v557, v560, rfl, ho0, ho1, hb⟩; refine ⟨_, rfl, ?_⟩; have HO558 := zA (Kd.R_lower ho0 (below_size (by repeat (first | (with_reducible first | exact HB.out | apply below_alloc | apply pw_below_drewN | apply below_drew1 | refine below_set ?_ GE552.out | refine below_set ?_ GE553.out | refine below_set ?_ GE554.out) | exact HB.out)))); have HO561 := zA (Kd.R_lower ho1 (below_size (by repeat (first | (with_reducible first | exact HB.out | apply below_alloc | apply pw_below_drewN | apply below_drew1 | refine below_set ?_ GE552.out | refine below_set ?_ GE553.out | refine below_set ?_ GE554.out) | exact HB.out)))); replace BK552 := zA (blk_below (g := gb552) (o := .cells #[.bool a0_0, .slice A0_1 l0_1.length c0_1, .slice A0_2 l0_2.length c0_2] 52 (0, 0)) (by exact zK BK552) hb); replace BK553 := zA (blk_below (g := gb553) (o := .cells #[.bool a1_0, .slice A1_1 l1_1.length c1_1, .slice A1_2 l1_2.length c1_2] 52 (0, 0)) (by exact zK BK553) hb); replace BK554 := zA (blk_below (g := gb554) (o := .cells #[.bool false, .slice none 0 0, .slice none 0 0] 52 (0, 0)) (by exact zK BK554) hb); replace HB := zA (below_step (by repeat (first | (with_reducible first | exact HB.out | apply below_alloc | apply pw_below_drewN | apply below_drew1 | refine below_set ?_ GE552.out | refine below_set ?_ GE553.out | refine below_set ?_ GE554.out) | exact HB.out)) hb); (try clear hb ho0 ho1); have hcz101_0 : w100.cell? ⟨gb552, 0, none⟩ = some (.bool a0_0) := (blk_cell BK552.out 0).trans rfl; have hcz101_1 : w100.cell? ⟨gb552, 1, none⟩ = some (.slice A0_1 l0_1.length c0_1) := (blk_cell BK552.out 1).trans rfl; have hcz101_2 : w100.cell? ⟨gb552, 2, none⟩ = some (.slice A0_2 l0_2.length c0_2) := (blk_cell BK552.out 2).trans rfl; have hfz101_0 := blk_frozen BK552.out 0; have hfz101_1 := blk_frozen BK552.out 1; have hfz101_2 := blk_frozen BK552.out 2; obtain ⟨Ao102, co102, eo102⟩ := Kd.R_slice HO558.out; subst eo102; obtain ⟨Ao103, co103, eo103⟩ := Kd.R_slice HO561.out; subst eo103; have hnb104 := NB553_554.out; have hnc104 := NB554_553.out; have hcz105_0 : w100.cell? ⟨gb553, 0, none⟩ = some (.bool a1_0) := (blk_cell BK553.out 0).trans rfl; have hcz105_1 : w100.cell? ⟨gb553, 1, none⟩ = some (.slice A1_1 l1_1.length c1_1) := (blk_cell BK553.out 1).trans rfl; have hcz105_2 : w100.cell? ⟨gb553, 2, none⟩ = some (.slice A1_2 l1_2.length c1_2) := (blk_cell BK553.out 2).trans rfl; have hfz105_0 := blk_frozen BK553.out 0; have hfz105_1 := blk_frozen BK553.out 1; have hfz105_2 := blk_frozen BK553.out 2) | ((with_reducible refine gate_callee (f := 83) rfl ?_); refine goesL_ (some 11) rfl rfl Try.func83 (by kernel_rfl) rfl #[.agg #[.bool a1_0, .slice A1_1 l1_1.length c1_1, .slice A1_2 l1_2.length c1_2]] rfl (by (try simp only [List.map_toArray, List.map_cons, List.map_nil]); first | done | rfl | (simp only [List.length_drop, List.length_take]; rfl)) ?_; (with_reducible refine (codewrightref02_Trim.calls k a1_0 _ _ l1_1 _ _ l1_2 t562 t563 t566 _ ?side1 ?side2 ?side3 ?side4 A4.out).mono ?_); (case side1 => exact Kd.C_below HR1_1.out (by repeat (first | (with_reducible first | exact HB.out | apply below_alloc | apply pw_below_drewN | apply below_drew1 | refine below_set ?_ GE552.out | refine below_set ?_ GE553.out | refine below_set ?_ GE554.out) | exact HB.out))); (case side2 => exact HC1_1.out); (case side3 => exact Kd.C_below HR1_2.out (by repeat (first | (with_reducible first | exact HB.out | apply below_alloc | apply pw_below_drewN | apply below_drew1 | refine below_set ?_ GE552.out | refine below_set ?_ GE553.out | refine below_set ?_ GE554.out) | exact HB.out))); (case side4 => exact HC1_2.out); rintro e w106 ⟨v564, v567, rfl, ho0, ho1, hb⟩; refine ⟨_, rfl, ?_⟩; have HO565 := zA (Kd.R_lower (Kd.R_new' (Kd.R_new' ho0 (Kd.R_lt (by (with_reducible repeat (first | apply Kd.R_alloc | apply Kd.R_drewN | apply Kd.R_drew)); exact (Kd.R_mono (Kd.R_far (p := ⟨gb552, 2, none⟩) (Kd.R_far (p := ⟨gb552, 1, none⟩) (Kd.R_far (p := ⟨gb552, 0, none⟩) (Kd.R_types HO558.out BK552.out (by decide)) (fun _ hk => hk.2) (.bool t555)) (fun _ hk => hk.2) (.slice Ao102 t556.length co102)) (fun _ hk => hk.2) (.slice Ao103 t559.length co103)) (fun _ h_ => h_.1))))) (Kd.R_lt (by (with_reducible repeat (first | apply Kd.R_alloc | apply Kd.R_drewN | apply Kd.R_drew)); exact (Kd.R_mono (Kd.R_far (p := ⟨gb552, 2, none⟩) (Kd.R_far (p := ⟨gb552, 1, none⟩) (Kd.R_far (p := ⟨gb552, 0, none⟩) (Kd.R_types HO561.out BK552.out (by decide)) (fun _ hk => hk.2) (.bool t555)) (fun _ hk => hk.2) (.slice Ao102 t556.length co102)) (fun _ hk => hk.2) (.slice Ao103 t559.length co103)) (fun _ h_ => h_.1))))) (below_size (by repeat (first | (with_reducible first | exact HB.out | apply below_alloc | apply pw_below_drewN | apply below_drew1 | refine below_set ?_ GE552.out | refine below_set ?_ GE553.out | refine below_set ?_ GE554.out) | exact HB.out)))); have HO568 := zA (Kd.R_lower (Kd.R_new' (Kd.R_new' ho1 (Kd.R_lt (by (with_reducible repeat (first | apply Kd.R_alloc | apply Kd.R_drewN | apply Kd.R_drew)); exact (Kd.R_mono (Kd.R_far (p := ⟨gb552, 2, none⟩) (Kd.R_far (p := ⟨gb552, 1, none⟩) (Kd.R_far (p := ⟨gb552, 0, none⟩) (Kd.R_types HO558.out BK552.out (by decide)) (fun _ hk => hk.2) (.bool t555)) (fun _ hk => hk.2) (.slice Ao102 t556.length co102)) (fun _ hk => hk.2) (.slice Ao103 t559.length co103)) (fun _ h_ => h_.1))))) (Kd.R_lt (by (with_reducible repeat (first | apply Kd.R_alloc | apply Kd.R_drewN | apply Kd.R_drew)); exact (Kd.R_mono (Kd.R_far (p := ⟨gb552, 2, none⟩) (Kd.R_far (p := ⟨gb552, 1, none⟩) (Kd.R_far (p := ⟨gb552, 0, none⟩) (Kd.R_types HO561.out BK552.out (by decide)) (fun _ hk => hk.2) (.bool t555)) (fun _ hk => hk.2) (.slice Ao102 t556.length co102)) (fun _ hk => hk.2) (.slice Ao103 t559.length co103)) (fun _ h_ => h_.1))))) (below_size (by repeat (first | (with_reducible first | exact HB.out | apply below_alloc | apply pw_below_drewN | apply below_drew1 | refine below_set ?_ GE552.out | refine below_set ?_ GE553.out | refine below_set ?_ GE554.out) | exact HB.out)))); replace HO558 := zA (Kd.R_mono (Kd.R_told (Kd.R_told (Kd.R_old (by (with_reducible repeat (first | apply Kd.R_alloc | apply Kd.R_drewN | apply Kd.R_drew)); exact (Kd.R_mono (Kd.R_far (p := ⟨gb552, 2, none⟩) (Kd.R_far (p := ⟨gb552, 1, none⟩) (Kd.R_far (p := ⟨gb552, 0, none⟩) (Kd.R_types HO558.out BK552.out (by decide)) (fun _ hk => hk.2) (.bool t555)) (fun _ hk => hk.2) (.slice Ao102 t556.length co102)) (fun _ hk => hk.2) (.slice Ao103 t559.length co103)) (fun _ h_ => h_.1))) hb) (Kd.R_base ho0)) (Kd.R_base ho1)) (fun _ h_ => h_.1)); replace HO561 := zA (Kd.R_mono (Kd.R_told (Kd.R_told (Kd.R_old (by (with_reducible repeat (first | apply Kd.R_alloc | apply Kd.R_drewN | apply Kd.R_drew)); exact (Kd.R_mono (Kd.R_far (p := ⟨gb552, 2, none⟩) (Kd.R_far (p := ⟨gb552, 1, none⟩) (Kd.R_far (p := ⟨gb552, 0, none⟩) (Kd.R_types HO561.out BK552.out (by decide)) (fun _ hk => hk.2) (.bool t555)) (fun _ hk => hk.2) (.slice Ao102 t556.length co102)) (fun _ hk => hk.2) (.slice Ao103 t559.length co103)) (fun _ h_ => h_.1))) hb) (Kd.R_base ho0)) (Kd.R_base ho1)) (fun _ h_ => h_.1)); replace BK552 := zA (blk_below (g := gb552) (o := .cells #[.bool t555, .slice Ao102 t556.length co102, .slice Ao103 t559.length co103] 52 (0, 0)) (by (with_reducible repeat (first | refine blk_drewN ?_ _ | refine blk_drew ?_ | refine blk_alloc ?_ _)); refine blk_put (cs := #[.bool t555, .slice Ao102 t556.length co102, .slice A0_2 l0_2.length c0_2]) ?_ 2 _ rfl; (with_reducible repeat (first | refine blk_drewN ?_ _ | refine blk_drew ?_ | refine blk_alloc ?_ _)); refine blk_put (cs := #[.bool t555, .slice A0_1 l0_1.length c0_1, .slice A0_2 l0_2.length c0_2]) ?_ 1 _ rfl; (with_reducible repeat (first | refine blk_drewN ?_ _ | refine blk_drew ?_ | refine blk_alloc ?_ _)); refine blk_put (cs := #[.bool a0_0, .slice A0_1 l0_1.length c0_1, .slice A0_2 l0_2.length c0_2]) ?_ 0 _ rfl; exact zK BK552) hb); replace BK553 := zA (blk_below (g := gb553) (o := .cells #[.bool a1_0, .slice A1_1 l1_1.length c1_1, .slice A1_2 l1_2.length c1_2] 52 (0, 0)) (by (with_reducible repeat (first | refine blk_drewN ?_ _ | refine blk_drew ?_ | refine blk_alloc ?_ _)); refine blk_far ?_ NB553_552.out _; (with_reducible repeat (first | refine blk_drewN ?_ _ | refine blk_drew ?_ | refine blk_alloc ?_ _)); refine blk_far ?_ NB553_552.out _; (with_reducible repeat (first | refine blk_drewN ?_ _ | refine blk_drew ?_ | refine blk_alloc ?_ _)); refine blk_far ?_ NB553_552.out _; exact zK BK553) hb); replace BK554 := zA (blk_below (g := gb554) (o := .cells #[.bool false, .slice none 0 0, .slice none 0 0] 52 (0, 0)) (by (with_reducible repeat (first | refine blk_drewN ?_ _ | refine blk_drew ?_ | refine blk_alloc ?_ _)); refine blk_far ?_ NB554_552.out _; (with_reducible repeat (first | refine blk_drewN ?_ _ | refine blk_drew ?_ | refine blk_alloc ?_ _)); refine blk_far ?_ NB554_552.out _; (with_reducible repeat (first | refine blk_drewN ?_ _ | refine blk_drew ?_ | refine blk_alloc ?_ _)); refine blk_far ?_ NB554_552.out _; exact zK BK554) hb); replace HB := zA (below_step (by repeat (first | (with_reducible first | exact HB.out | apply below_alloc | apply pw_below_drewN | apply below_drew1 | refine below_set ?_ GE552.out | refine below_set ?_ GE553.out | refine below_set ?_ GE554.out) | exact HB.out)) hb); (try clear hb ho0 ho1); have hcz107_0 : w106.cell? ⟨gb553, 0, none⟩ = some (.bool a1_0) := (blk_cell BK553.out 0).trans rfl; have hcz107_1 : w106.cell? ⟨gb553, 1, none⟩ = some (.slice A1_1 l1_1.length c1_1) := (blk_cell BK553.out 1).trans rfl; have hcz107_2 : w106.cell? ⟨gb553, 2, none⟩ = some (.slice A1_2 l1_2.length c1_2) := (blk_cell BK553.out 2).trans rfl; have hfz107_0 := blk_frozen BK553.out 0; have hfz107_1 := blk_frozen BK553.out 1; have hfz107_2 := blk_frozen BK553.out 2; obtain ⟨Ao108, co108, eo108⟩ := Kd.R_slice HO565.out; subst eo108; obtain ⟨Ao109, co109, eo109⟩ := Kd.R_slice HO568.out; subst eo109; have hcz110_0 : w106.cell? ⟨gb552, 0, none⟩ = some (.bool t555) := (blk_cell BK552.out 0).trans rfl; have hcz110_1 : w106.cell? ⟨gb552, 1, none⟩ = some (.slice Ao102 t556.length co102) := (blk_cell BK552.out 1).trans rfl; have hcz110_2 : w106.cell? ⟨gb552, 2, none⟩ = some (.slice Ao103 t559.length co103) := (blk_cell BK552.out 2).trans rfl; have hfz110_0 := blk_frozen BK552.out 0; have hfz110_1 := blk_frozen BK552.out 1; have hfz110_2 := blk_frozen BK552.out 2) | ((with_reducible refine gate_callee (f := 47) rfl ?_); refine goesL_ (some 16) rfl rfl Try.func47 (by kernel_rfl) rfl #[.slice Ao102 t556.length co102, .slice Ao109 t566.length co109] rfl (by (try simp only [List.map_toArray, List.map_cons, List.map_nil]); first | done | rfl | (simp only [List.length_drop, List.length_take]; rfl)) ?_; (with_reducible refine (codewrightref01_Mul.calls k _ _ t556 _ _ t566 t569 _ ?side1 ?side2 ?side3 ?side4 A5.out).mono ?_); (case side1 => refine (Kd.R_reads' (e := 79) (base := w.heap.size) (ok := fun k_ => ((some k_ ≠ (.slice Ao103 t559.length co103 : Value).ownBlock ∧ some k_ ≠ (.slice Ao108 t563.length co108 : Value).ownBlock) ∧ some k_ ≠ (.slice Ao109 t566.length co109 : Value).ownBlock)) (n := t556.length) (c := co102) ?_).2.2; exact (by (with_reducible repeat (first | apply Kd.R_alloc | apply Kd.R_drewN | apply Kd.R_drew)); exact (Kd.R_mono (Kd.R_far (p := ⟨gb553, 2, none⟩) (Kd.R_far (p := ⟨gb553, 1, none⟩) (Kd.R_far (p := ⟨gb553, 0, none⟩) (Kd.R_types HO558.out BK553.out (by decide)) (fun _ hk => hk.2) (.bool t562)) (fun _ hk => hk.2) (.slice Ao108 t563.length co108)) (fun _ hk => hk.2) (.slice Ao109 t566.length co109)) (fun _ h_ => h_.1)))); (case side2 => exact (Kd.R_reads' HO558.out).2.1); (case side3 => refine (Kd.R_reads' (e := 79) (base := w.heap.size) (ok := fun k_ => ((some k_ ≠ (.slice Ao108 t563.length co108 : Value).ownBlock ∧ some k_ ≠ (.slice Ao102 t556.length co102 : Value).ownBlock) ∧ some k_ ≠ (.slice Ao103 t559.length co103 : Value).ownBlock)) (n := t566.length) (c := co109) ?_).2.2; exact (by (with_reducible repeat (first | apply Kd.R_alloc | apply Kd.R_drewN | apply Kd.R_drew)); exact (Kd.R_mono (Kd.R_far (p := ⟨gb553, 2, none⟩) (Kd.R_far (p := ⟨gb553, 1, none⟩) (Kd.R_far (p := ⟨gb553, 0, none⟩) (Kd.R_types HO568.out BK553.out (by decide)) (fun _ hk => hk.2) (.bool t562)) (fun _ hk => hk.2) (.slice Ao108 t563.length co108)) (fun _ hk => hk.2) (.slice Ao109 t566.length co109)) (fun _ h_ => h_.1)))); (case side4 => exact (Kd.R_reads' HO568.out).2.1); rintro e w111 ⟨v570, rfl, ho0, hb⟩; refine ⟨_, rfl, ?_⟩; have HO571 := zA (Kd.R_lower (Kd.R_new' (Kd.R_new' (Kd.R_new' (Kd.R_new' ho0 (Kd.R_lt (by (with_reducible repeat (first | apply Kd.R_alloc | apply Kd.R_drewN | apply Kd.R_drew)); exact (Kd.R_mono (Kd.R_far (p := ⟨gb553, 2, none⟩) (Kd.R_far (p := ⟨gb553, 1, none⟩) (Kd.R_far (p := ⟨gb553, 0, none⟩) (Kd.R_types HO558.out BK553.out (by decide)) (fun _ hk => hk.2) (.bool t562)) (fun _ hk => hk.2) (.slice Ao108 t563.length co108)) (fun _ hk => hk.2) (.slice Ao109 t566.length co109)) (fun _ h_ => h_.1))))) (Kd.R_lt (by (with_reducible repeat (first | apply Kd.R_alloc | apply Kd.R_drewN | apply Kd.R_drew)); exact (Kd.R_mono (Kd.R_far (p := ⟨gb553, 2, none⟩) (Kd.R_far (p := ⟨gb553, 1, none⟩) (Kd.R_far (p := ⟨gb553, 0, none⟩) (Kd.R_types HO561.out BK553.out (by decide)) (fun _ hk => hk.2) (.bool t562)) (fun _ hk => hk.2) (.slice Ao108 t563.length co108)) (fun _ hk => hk.2) (.slice Ao109 t566.length co109)) (fun _ h_ => h_.1))))) (Kd.R_lt (by (with_reducible repeat (first | apply Kd.R_alloc | apply Kd.R_drewN | apply Kd.R_drew)); exact (Kd.R_mono (Kd.R_far (p := ⟨gb553, 2, none⟩) (Kd.R_far (p := ⟨gb553, 1, none⟩) (Kd.R_far (p := ⟨gb553, 0, none⟩) (Kd.R_types HO565.out BK553.out (by decide)) (fun _ hk => hk.2) (.bool t562)) (fun _ hk => hk.2) (.slice Ao108 t563.length co108)) (fun _ hk => hk.2) (.slice Ao109 t566.length co109)) (fun _ h_ => h_.1))))) (Kd.R_lt (by (with_reducible repeat (first | apply Kd.R_alloc | apply Kd.R_drewN | apply Kd.R_drew)); exact (Kd.R_mono (Kd.R_far (p := ⟨gb553, 2, none⟩) (Kd.R_far (p := ⟨gb553, 1, none⟩) (Kd.R_far (p := ⟨gb553, 0, none⟩) (Kd.R_types HO568.out BK553.out (by decide)) (fun _ hk => hk.2) (.bool t562)) (fun _ hk => hk.2) (.slice Ao108 t563.length co108)) (fun _ hk => hk.2) (.slice Ao109 t566.length co109)) (fun _ h_ => h_.1))))) (below_size (by repeat (first | (with_reducible first | exact HB.out | apply below_alloc | apply pw_below_drewN | apply below_drew1 | refine below_set ?_ GE552.out | refine below_set ?_ GE553.out | refine below_set ?_ GE554.out) | exact HB.out)))); replace HO558 := zA (Kd.R_elder' (by (with_reducible repeat (first | apply Kd.R_alloc | apply Kd.R_drewN | apply Kd.R_drew)); exact (Kd.R_mono (Kd.R_far (p := ⟨gb553, 2, none⟩) (Kd.R_far (p := ⟨gb553, 1, none⟩) (Kd.R_far (p := ⟨gb553, 0, none⟩) (Kd.R_types HO558.out BK553.out (by decide)) (fun _ hk => hk.2) (.bool t562)) (fun _ hk => hk.2) (.slice Ao108 t563.length co108)) (fun _ hk => hk.2) (.slice Ao109 t566.length co109)) (fun _ h_ => h_.1))) (Kd.R_base ho0) hb); replace HO561 := zA (Kd.R_elder' (by (with_reducible repeat (first | apply Kd.R_alloc | apply Kd.R_drewN | apply Kd.R_drew)); exact (Kd.R_mono (Kd.R_far (p := ⟨gb553, 2, none⟩) (Kd.R_far (p := ⟨gb553, 1, none⟩) (Kd.R_far (p := ⟨gb553, 0, none⟩) (Kd.R_types HO561.out BK553.out (by decide)) (fun _ hk => hk.2) (.bool t562)) (fun _ hk => hk.2) (.slice Ao108 t563.length co108)) (fun _ hk => hk.2) (.slice Ao109 t566.length co109)) (fun _ h_ => h_.1))) (Kd.R_base ho0) hb); replace HO565 := zA (Kd.R_elder' (by (with_reducible repeat (first | apply Kd.R_alloc | apply Kd.R_drewN | apply Kd.R_drew)); exact (Kd.R_mono (Kd.R_far (p := ⟨gb553, 2, none⟩) (Kd.R_far (p := ⟨gb553, 1, none⟩) (Kd.R_far (p := ⟨gb553, 0, none⟩) (Kd.R_types HO565.out BK553.out (by decide)) (fun _ hk => hk.2) (.bool t562)) (fun _ hk => hk.2) (.slice Ao108 t563.length co108)) (fun _ hk => hk.2) (.slice Ao109 t566.length co109)) (fun _ h_ => h_.1))) (Kd.R_base ho0) hb); replace HO568 := zA (Kd.R_elder' (by (with_reducible repeat (first | apply Kd.R_alloc | apply Kd.R_drewN | apply Kd.R_drew)); exact (Kd.R_mono (Kd.R_far (p := ⟨gb553, 2, none⟩) (Kd.R_far (p := ⟨gb553, 1, none⟩) (Kd.R_far (p := ⟨gb553, 0, none⟩) (Kd.R_types HO568.out BK553.out (by decide)) (fun _ hk => hk.2) (.bool t562)) (fun _ hk => hk.2) (.slice Ao108 t563.length co108)) (fun _ hk => hk.2) (.slice Ao109 t566.length co109)) (fun _ h_ => h_.1))) (Kd.R_base ho0) hb); replace BK552 := zA (blk_below (g := gb552) (o := .cells #[.bool t555, .slice Ao102 t556.length co102, .slice Ao103 t559.length co103] 52 (0, 0)) (by (with_reducible repeat (first | refine blk_drewN ?_ _ | refine blk_drew ?_ | refine blk_alloc ?_ _)); refine blk_far ?_ NB552_553.out _; (with_reducible repeat (first | refine blk_drewN ?_ _ | refine blk_drew ?_ | refine blk_alloc ?_ _)); refine blk_far ?_ NB552_553.out _; (with_reducible repeat (first | refine blk_drewN ?_ _ | refine blk_drew ?_ | refine blk_alloc ?_ _)); refine blk_far ?_ NB552_553.out _; exact zK BK552) hb); replace BK553 := zA (blk_below (g := gb553) (o := .cells #[.bool t562, .slice Ao108 t563.length co108, .slice Ao109 t566.length co109] 52 (0, 0)) (by (with_reducible repeat (first | refine blk_drewN ?_ _ | refine blk_drew ?_ | refine blk_alloc ?_ _)); refine blk_put (cs := #[.bool t562, .slice Ao108 t563.length co108, .slice A1_2 l1_2.length c1_2]) ?_ 2 _ rfl; (with_reducible repeat (first | refine blk_drewN ?_ _ | refine blk_drew ?_ | refine blk_alloc ?_ _)); refine blk_put (cs := #[.bool t562, .slice A1_1 l1_1.length c1_1, .slice A1_2 l1_2.length c1_2]) ?_ 1 _ rfl; (with_reducible repeat (first | refine blk_drewN ?_ _ | refine blk_drew ?_ | refine blk_alloc ?_ _)); refine blk_put (cs := #[.bool a1_0, .slice A1_1 l1_1.length c1_1, .slice A1_2 l1_2.length c1_2]) ?_ 0 _ rfl; exact zK BK553) hb); replace BK554 := zA (blk_below (g := gb554) (o := .cells #[.bool false, .slice none 0 0, .slice none 0 0] 52 (0, 0)) (by (with_reducible repeat (first | refine blk_drewN ?_ _ | refine blk_drew ?_ | refine blk_alloc ?_ _)); refine blk_far ?_ NB554_553.out _; (with_reducible repeat (first | refine blk_drewN ?_ _ | refine blk_drew ?_ | refine blk_alloc ?_ _)); refine blk_far ?_ NB554_553.out _; (with_reducible repeat (first | refine blk_drewN ?_ _ | refine blk_drew ?_ | refine blk_alloc ?_ _)); refine blk_far ?_ NB554_553.out _; exact zK BK554) hb); replace HB := zA (below_step (by repeat (first | (with_reducible first | exact HB.out | apply below_alloc | apply pw_below_drewN | apply below_drew1 | refine below_set ?_ GE552.out | refine below_set ?_ GE553.out | refine below_set ?_ GE554.out) | exact HB.out)) hb); (try clear hb ho0); have hcz112_0 : w111.cell? ⟨gb553, 0, none⟩ = some (.bool t562) := (blk_cell BK553.out 0).trans rfl; have hcz112_1 : w111.cell? ⟨gb553, 1, none⟩ = some (.slice Ao108 t563.length co108) := (blk_cell BK553.out 1).trans rfl; have hcz112_2 : w111.cell? ⟨gb553, 2, none⟩ = some (.slice Ao109 t566.length co109) := (blk_cell BK553.out 2).trans rfl; have hfz112_0 := blk_frozen BK553.out 0; have hfz112_1 := blk_frozen BK553.out 1; have hfz112_2 := blk_frozen BK553.out 2; have hcz113_0 : w111.cell? ⟨gb552, 0, none⟩ = some (.bool t555) := (blk_cell BK552.out 0).trans rfl; have hcz113_1 : w111.cell? ⟨gb552, 1, none⟩ = some (.slice Ao102 t556.length co102) := (blk_cell BK552.out 1).trans rfl; have hcz113_2 : w111.cell? ⟨gb552, 2, none⟩ = some (.slice Ao103 t559.length co103) := (blk_cell BK552.out 2).trans rfl; have hfz113_0 := blk_frozen BK552.out 0; have hfz113_1 := blk_frozen BK552.out 1; have hfz113_2 := blk_frozen BK552.out 2) | ((with_reducible refine gate_callee (f := 47) rfl ?_); refine goesL_ (some 21) rfl rfl Try.func47 (by kernel_rfl) rfl #[.slice Ao108 t563.length co108, .slice Ao103 t559.length co103] rfl (by (try simp only [List.map_toArray, List.map_cons, List.map_nil]); first | done | rfl | (simp only [List.length_drop, List.length_take]; rfl)) ?_; (with_reducible refine (codewrightref01_Mul.calls k _ _ t563 _ _ t559 t572 _ ?side1 ?side2 ?side3 ?side4 A6.out).mono ?_); (case side1 => exact zC ((Kd.R_reads' HO565.out).2.2)); (case side2 => exact (Kd.R_reads' HO565.out).2.1); (case side3 => exact zC ((Kd.R_reads' HO561.out).2.2)); (case side4 => exact (Kd.R_reads' HO561.out).2.1); rintro e w114 ⟨v573, rfl, ho0, hb⟩; refine ⟨_, rfl, ?_⟩; have HO574 := zA (Kd.R_lower (Kd.R_new' (Kd.R_new' (Kd.R_new' (Kd.R_new' (Kd.R_new' ho0 (Kd.R_lt (by exact zR HO558))) (Kd.R_lt (by exact zR HO561))) (Kd.R_lt (by exact zR HO565))) (Kd.R_lt (by exact zR HO568))) (Kd.R_lt (by exact zR HO571))) (below_size (by repeat (first | (with_reducible first | exact HB.out | apply below_alloc | apply pw_below_drewN | apply below_drew1 | refine below_set ?_ GE552.out | refine below_set ?_ GE553.out | refine below_set ?_ GE554.out) | exact HB.out)))); replace HO558 := zA (Kd.R_elder' (by exact zR HO558) (Kd.R_base ho0) hb); replace HO561 := zA (Kd.R_elder' (by exact zR HO561) (Kd.R_base ho0) hb); replace HO565 := zA (Kd.R_elder' (by exact zR HO565) (Kd.R_base ho0) hb); replace HO568 := zA (Kd.R_elder' (by exact zR HO568) (Kd.R_base ho0) hb); replace HO571 := zA (Kd.R_elder' (by exact zR HO571) (Kd.R_base ho0) hb); replace BK552 := zA (blk_below (g := gb552) (o := .cells #[.bool t555, .slice Ao102 t556.length co102, .slice Ao103 t559.length co103] 52 (0, 0)) (by exact zK BK552) hb); replace BK553 := zA (blk_below (g := gb553) (o := .cells #[.bool t562, .slice Ao108 t563.length co108, .slice Ao109 t566.length co109] 52 (0, 0)) (by exact zK BK553) hb); replace BK554 := zA (blk_below (g := gb554) (o := .cells #[.bool false, .slice none 0 0, .slice none 0 0] 52 (0, 0)) (by exact zK BK554) hb); replace HB := zA (below_step (by repeat (first | (with_reducible first | exact HB.out | apply below_alloc | apply pw_below_drewN | apply below_drew1 | refine below_set ?_ GE552.out | refine below_set ?_ GE553.out | refine below_set ?_ GE554.out) | exact HB.out)) hb); (try clear hb ho0); have hcz115_0 : w114.cell? ⟨gb552, 0, none⟩ = some (.bool t555) := (blk_cell BK552.out 0).trans rfl; have hcz115_1 : w114.cell? ⟨gb552, 1, none⟩ = some (.slice Ao102 t556.length co102) := (blk_cell BK552.out 1).trans rfl; have hcz115_2 : w114.cell? ⟨gb552, 2, none⟩ = some (.slice Ao103 t559.length co103) := (blk_cell BK552.out 2).trans rfl; have hfz115_0 := blk_frozen BK552.out 0; have hfz115_1 := blk_frozen BK552.out 1; have hfz115_2 := blk_frozen BK552.out 2; have hcz116_0 : w114.cell? ⟨gb553, 0, none⟩ = some (.bool t562) := (blk_cell BK553.out 0).trans rfl; have hcz116_1 : w114.cell? ⟨gb553, 1, none⟩ = some (.slice Ao108 t563.length co108) := (blk_cell BK553.out 1).trans rfl; have hcz116_2 : w114.cell? ⟨gb553, 2, none⟩ = some (.slice Ao109 t566.length co109) := (blk_cell BK553.out 2).trans rfl; have hfz116_0 := blk_frozen BK553.out 0; have hfz116_1 := blk_frozen BK553.out 1; have hfz116_2 := blk_frozen BK553.out 2) | ((with_reducible refine gate_callee (f := 47) rfl ?_); refine goesL_ (some 26) rfl rfl Try.func47 (by kernel_rfl) rfl #[.slice Ao103 t559.length co103, .slice Ao109 t566.length co109] rfl (by (try simp only [List.map_toArray, List.map_cons, List.map_nil]); first | done | rfl | (simp only [List.length_drop, List.length_take]; rfl)) ?_; (with_reducible refine (codewrightref01_Mul.calls k _ _ t559 _ _ t566 t575 _ ?side1 ?side2 ?side3 ?side4 A7.out).mono ?_); (case side1 => exact zC ((Kd.R_reads' HO561.out).2.2)); (case side2 => exact (Kd.R_reads' HO561.out).2.1); (case side3 => exact zC ((Kd.R_reads' HO568.out).2.2)); (case side4 => exact (Kd.R_reads' HO568.out).2.1); rintro e w117 ⟨v576, rfl, ho0, hb⟩; refine ⟨_, rfl, ?_⟩; have HO577 := zA (Kd.R_lower (Kd.R_new' (Kd.R_new' (Kd.R_new' (Kd.R_new' (Kd.R_new' (Kd.R_new' ho0 (Kd.R_lt (by exact zR HO558))) (Kd.R_lt (by exact zR HO561))) (Kd.R_lt (by exact zR HO565))) (Kd.R_lt (by exact zR HO568))) (Kd.R_lt (by exact zR HO571))) (Kd.R_lt (by exact zR HO574))) (below_size (by repeat (first | (with_reducible first | exact HB.out | apply below_alloc | apply pw_below_drewN | apply below_drew1 | refine below_set ?_ GE552.out | refine below_set ?_ GE553.out | refine below_set ?_ GE554.out) | exact HB.out)))); replace HO558 := zA (Kd.R_elder' (by exact zR HO558) (Kd.R_base ho0) hb); replace HO561 := zA (Kd.R_elder' (by exact zR HO561) (Kd.R_base ho0) hb); replace HO565 := zA (Kd.R_elder' (by exact zR HO565) (Kd.R_base ho0) hb); replace HO568 := zA (Kd.R_elder' (by exact zR HO568) (Kd.R_base ho0) hb); replace HO571 := zA (Kd.R_elder' (by exact zR HO571) (Kd.R_base ho0) hb); replace HO574 := zA (Kd.R_elder' (by exact zR HO574) (Kd.R_base ho0) hb); replace BK552 := zA (blk_below (g := gb552) (o := .cells #[.bool t555, .slice Ao102 t556.length co102, .slice Ao103 t559.length co103] 52 (0, 0)) (by exact zK BK552) hb); replace BK553 := zA (blk_below (g := gb553) (o := .cells #[.bool t562, .slice Ao108 t563.length co108, .slice Ao109 t566.length co109] 52 (0, 0)) (by exact zK BK553) hb); replace BK554 := zA (blk_below (g := gb554) (o := .cells #[.bool false, .slice none 0 0, .slice none 0 0] 52 (0, 0)) (by exact zK BK554) hb); replace HB := zA (below_step (by repeat (first | (with_reducible first | exact HB.out | apply below_alloc | apply pw_below_drewN | apply below_drew1 | refine below_set ?_ GE552.out | refine below_set ?_ GE553.out | refine below_set ?_ GE554.out) | exact HB.out)) hb); (try clear hb ho0); have hcz118_0 : w117.cell? ⟨gb552, 0, none⟩ = some (.bool t555) := (blk_cell BK552.out 0).trans rfl; have hcz118_1 : w117.cell? ⟨gb552, 1, none⟩ = some (.slice Ao102 t556.length co102) := (blk_cell BK552.out 1).trans rfl; have hcz118_2 : w117.cell? ⟨gb552, 2, none⟩ = some (.slice Ao103 t559.length co103) := (blk_cell BK552.out 2).trans rfl; have hfz118_0 := blk_frozen BK552.out 0; have hfz118_1 := blk_frozen BK552.out 1; have hfz118_2 := blk_frozen BK552.out 2; have hcz119_0 : w117.cell? ⟨gb553, 0, none⟩ = some (.bool t562) := (blk_cell BK553.out 0).trans rfl; have hcz119_1 : w117.cell? ⟨gb553, 1, none⟩ = some (.slice Ao108 t563.length co108) := (blk_cell BK553.out 1).trans rfl; have hcz119_2 : w117.cell? ⟨gb553, 2, none⟩ = some (.slice Ao109 t566.length co109) := (blk_cell BK553.out 2).trans rfl; have hfz119_0 := blk_frozen BK553.out 0; have hfz119_1 := blk_frozen BK553.out 1; have hfz119_2 := blk_frozen BK553.out 2; obtain ⟨Ao120, co120, eo120⟩ := Kd.R_slice HO571.out; subst eo120; obtain ⟨Ao121, co121, eo121⟩ := Kd.R_slice HO574.out; subst eo121) | ((with_reducible refine gate_callee (f := 70) rfl ?_); refine goesL_ (some 41) rfl rfl Try.func70 (by kernel_rfl) rfl #[.slice Ao120 t569.length co120, .slice Ao121 t572.length co121] rfl (by (try simp only [List.map_toArray, List.map_cons, List.map_nil]); first | done | rfl | (simp only [List.length_drop, List.length_take]; rfl)) ?_; (with_reducible refine (codewrightref01_Cmp.calls k _ _ t569 _ _ t572 t588 _ ?side1 ?side2 ?side3 ?side4 A49.out).mono ?_); (case side1 => exact zC ((Kd.R_reads' HO571.out).2.2)); (case side2 => exact (Kd.R_reads' HO571.out).2.1); (case side3 => exact zC ((Kd.R_reads' HO574.out).2.2)); (case side4 => exact (Kd.R_reads' HO574.out).2.1); rintro e w122 ⟨rfl, hb⟩; refine ⟨_, rfl, ?_⟩; replace HO558 := zA (Kd.R_below (by exact zR HO558) hb); replace HO561 := zA (Kd.R_below (by exact zR HO561) hb); replace HO565 := zA (Kd.R_below (by exact zR HO565) hb); replace HO568 := zA (Kd.R_below (by exact zR HO568) hb); replace HO571 := zA (Kd.R_below (by exact zR HO571) hb); replace HO574 := zA (Kd.R_below (by exact zR HO574) hb); replace HO577 := zA (Kd.R_below (by exact zR HO577) hb); replace BK552 := zA (blk_below (g := gb552) (o := .cells #[.bool t555, .slice Ao102 t556.length co102, .slice Ao103 t559.length co103] 52 (0, 0)) (by exact zK BK552) hb); replace BK553 := zA (blk_below (g := gb553) (o := .cells #[.bool t562, .slice Ao108 t563.length co108, .slice Ao109 t566.length co109] 52 (0, 0)) (by exact zK BK553) hb); replace BK554 := zA (blk_below (g := gb554) (o := .cells #[.bool false, .slice none 0 0, .slice none 0 0] 52 (0, 0)) (by exact zK BK554) hb); replace HB := zA (below_step (by repeat (first | (with_reducible first | exact HB.out | apply below_alloc | apply pw_below_drewN | apply below_drew1 | refine below_set ?_ GE552.out | refine below_set ?_ GE553.out | refine below_set ?_ GE554.out) | exact HB.out)) hb); (try clear hb)))
   have n0_ := zA (Kd.R_drew HO558.out)
   have n1_ := zA (Kd.R_drew HO561.out)
   have n2_ := zA (Kd.R_drew HO565.out)
   have n3_ := zA (Kd.R_drew HO568.out)
   have n4_ := zA (Kd.R_drew HO571.out)
   have n5_ := zA (Kd.R_drew HO574.out)
   have n6_ := zA (Kd.R_drew HO577.out)
   have n7_ := zA (blk_drew BK552.out)
   have n8_ := zA (blk_drew BK553.out)
   have n9_ := zA (blk_drew BK554.out)
   have n10_ := zA (below_drew1 HB.out)
   clear HO558
   clear HO561
   clear HO565
   clear HO568
   clear HO571
   clear HO574
   clear HO577
   clear BK552
   clear BK553
   clear BK554
   clear HB
   have HO558 := n0_
   have HO561 := n1_
   have HO565 := n2_
   have HO568 := n3_
   have HO571 := n4_
   have HO574 := n5_
   have HO577 := n6_
   have BK552 := n7_
   have BK553 := n8_
   have BK554 := n9_
   have HB := n10_
   clear n0_ n1_ n2_ n3_ n4_ n5_ n6_ n7_ n8_ n9_ n10_
   refine start_ (n := 8) (S := fun w' => w'.cell? ⟨gb553, 0, none⟩ = some (.bool t562) ∧ w'.cell? ⟨gb553, 1, none⟩ = some (.slice Ao108 t563.length co108) ∧ w'.cell? ⟨gb553, 2, none⟩ = some (.slice Ao109 t566.length co109)) (ds := []) #[false, false, false, false, false, false, false, false] (by kernel_rfl) rfl rfl ⟨(blk_cell BK553.out 0).trans rfl, (blk_cell BK553.out 1).trans rfl, (blk_cell BK553.out 2).trans rfl⟩ (fun hHeld => ?_); refine with_tabW codewrightref02_Add.tab10 codewrightref02_Add.bits10 (fun HT_ HW_ => ?_)
   generalize w122.drew = w123 at HO558 HO561 HO565 HO568 HO571 HO574 HO577 BK552 BK553 BK554 HB hHeld ⊢
   refine pure_ (i := 0) (N := some 50) (v := ?_) (a' := ?_) #[true, false, false, false, false, false, false, false] rfl rfl (any_of HT_.out (by kernel_rfl)) (fun _ _ _ h => h) (Or.inl ⟨by rfl, ?_⟩) ?_ ?_
   rotate_left
   ·
    intro w'
    go_simp
    with_reducible rfl
   rotate_left
   ·
    simp only [Act.put, List.setIfInBounds_toArray, List.set_cons_zero, List.set_cons_succ, i64_w, i32_w]
    rfl
   refine pure_ (i := 2) (N := some 52) (v := ?_) (a' := ?_) #[true, false, true, false, false, false, false, false] rfl rfl (any_of HT_.out (by kernel_rfl)) (fun _ _ _ h => h) (Or.inl ⟨by rfl, ?_⟩) ?_ ?_
   rotate_left
   ·
    intro w'
    go_simp
    with_reducible rfl
   rotate_left
   ·
    simp only [Act.put, List.setIfInBounds_toArray, List.set_cons_zero, List.set_cons_succ, i64_w, i32_w]
    rfl
   refine pure_ (i := 3) (N := some 53) (v := ?_) (a' := ?_) #[true, false, true, true, false, false, false, false] rfl rfl (any_of HT_.out (by kernel_rfl)) (fun _ _ _ h => h) (Or.inl ⟨by rfl, ?_⟩) ?_ ?_
   rotate_left
   ·
    intro w'
    go_simp
    with_reducible rfl
   rotate_left
   ·
    simp only [Act.put, List.setIfInBounds_toArray, List.set_cons_zero, List.set_cons_succ, i64_w, i32_w]
    rfl
   refine pure_ (i := 5) (N := some 55) (v := ?_) (a' := ?_) #[true, false, true, true, false, true, false, false] rfl rfl (any_of HT_.out (by kernel_rfl)) (fun _ _ _ h => h) (Or.inl ⟨by rfl, ?_⟩) ?_ ?_
   rotate_left
   ·
    intro w'
    go_simp
    with_reducible rfl
   rotate_left
   ·
    simp only [Act.put, List.setIfInBounds_toArray, List.set_cons_zero, List.set_cons_succ, i64_w, i32_w]
    rfl
   refine take_ (i := 1) (N := some 51) (v := ?_) (a' := ?_) #[true, true, true, true, false, true, false, false] rfl rfl (take_ofW HT_.out HW_.out (by kernel_rfl)) (fun _ _ _ h => h) (Or.inl ⟨by rfl, ?_⟩) hHeld ?_ ?_
   rotate_left
   ·
    rintro w' ⟨s0, s1, s2⟩
    go_simp
    with_reducible rfl
   rotate_left
   ·
    simp only [Act.put, List.setIfInBounds_toArray, List.set_cons_zero, List.set_cons_succ, i64_w, i32_w]
    rfl
   refine one_ (i := 4) (N := some 54) #[true, true, true, true, true, true, false, false] rfl rfl (one_of HT_.out (by kernel_rfl)) (by decide) (fun K hK => ?_)
   refine goes_ Try.func86 (by kernel_rfl) rfl #[.slice Ao121 t572.length co121, .slice Ao120 t569.length co120] (by rfl) rfl rfl (by (try simp only [List.map_toArray, List.map_cons, List.map_nil]); first | done | rfl | (simp only [List.length_drop, List.length_take]; rfl)) ?_
   with_reducible refine (codewrightref01_Sub.calls k _ _ t572 _ _ t569 t599 _ ?side1 ?side2 ?side3 ?side4 A92.out).mono ?_
   (case side1 => exact zC ((Kd.R_reads' HO574.out).2.2))
   (case side2 => exact (Kd.R_reads' HO574.out).2.1)
   (case side3 => exact zC ((Kd.R_reads' HO571.out).2.2))
   (case side4 => exact (Kd.R_reads' HO571.out).2.1)
   rintro e w124 ⟨v600, rfl, ho0, hb⟩
   refine ⟨_, rfl, ?_⟩
   have n0_ := zA (Kd.R_elder' (by exact zR HO558) (Kd.R_base ho0) hb)
   have n1_ := zA (Kd.R_elder' (by exact zR HO561) (Kd.R_base ho0) hb)
   have n2_ := zA (Kd.R_elder' (by exact zR HO565) (Kd.R_base ho0) hb)
   have n3_ := zA (Kd.R_elder' (by exact zR HO568) (Kd.R_base ho0) hb)
   have n4_ := zA (Kd.R_elder' (by exact zR HO571) (Kd.R_base ho0) hb)
   have n5_ := zA (Kd.R_elder' (by exact zR HO574) (Kd.R_base ho0) hb)
   have n6_ := zA (Kd.R_elder' (by exact zR HO577) (Kd.R_base ho0) hb)
   have n7_ := zA (Kd.R_lower (Kd.R_new' (Kd.R_new' (Kd.R_new' (Kd.R_new' (Kd.R_new' (Kd.R_new' (Kd.R_new' ho0 (Kd.R_lt (by exact zR HO558))) (Kd.R_lt (by exact zR HO561))) (Kd.R_lt (by exact zR HO565))) (Kd.R_lt (by exact zR HO568))) (Kd.R_lt (by exact zR HO571))) (Kd.R_lt (by exact zR HO574))) (Kd.R_lt (by exact zR HO577))) (below_size (by repeat (first | (with_reducible first | exact HB.out | apply below_alloc | apply pw_below_drewN | apply below_drew1 | refine below_set ?_ GE552.out | refine below_set ?_ GE553.out | refine below_set ?_ GE554.out) | exact HB.out))))
   have n8_ := zA (blk_below (g := gb552) (o := .cells #[.bool t555, .slice Ao102 t556.length co102, .slice Ao103 t559.length co103] 52 (0, 0)) (by exact zK BK552) hb)
   have n9_ := zA (blk_below (g := gb553) (o := .cells #[.bool t562, .slice Ao108 t563.length co108, .slice Ao109 t566.length co109] 52 (0, 0)) (by exact zK BK553) hb)
   have n10_ := zA (blk_below (g := gb554) (o := .cells #[.bool false, .slice none 0 0, .slice none 0 0] 52 (0, 0)) (by exact zK BK554) hb)
   have n11_ := zA (below_step (by repeat (first | (with_reducible first | exact HB.out | apply below_alloc | apply pw_below_drewN | apply below_drew1 | refine below_set ?_ GE552.out | refine below_set ?_ GE553.out | refine below_set ?_ GE554.out) | exact HB.out)) hb)
   clear HO558
   clear HO561
   clear HO565
   clear HO568
   clear HO571
   clear HO574
   clear HO577
   clear BK552
   clear BK553
   clear BK554
   clear HB
   have HO558 := n0_
   have HO561 := n1_
   have HO565 := n2_
   have HO568 := n3_
   have HO571 := n4_
   have HO574 := n5_
   have HO577 := n6_
   have HO601 := n7_
   have BK552 := n8_
   have BK553 := n9_
   have BK554 := n10_
   have HB := n11_
   clear n0_ n1_ n2_ n3_ n4_ n5_ n6_ n7_ n8_ n9_ n10_ n11_
   (try clear hb)
   (try clear hb2)
   (try clear hk)
   (try clear hi)
   (try clear ho0)
   obtain ⟨Ao125, co125, eo125⟩ := Kd.R_slice HO601.out
   (first | subst eo125 | (injection eo125 with f1_ f2_ f3_; have f4_ := f1_.symm; have f5_ := f3_.symm; clear f1_ f2_ f3_; subst f4_; subst f5_))
   obtain ⟨Ao126, co126, eo126⟩ := Kd.R_slice HO577.out
   (first | subst eo126 | (injection eo126 with f1_ f2_ f3_; have f4_ := f1_.symm; have f5_ := f3_.symm; clear f1_ f2_ f3_; subst f4_; subst f5_))
   refine hK.out _ _ ⟨(blk_cell BK553.out 0).trans rfl, (blk_cell BK553.out 1).trans rfl, (blk_cell BK553.out 2).trans rfl⟩ (fun hHeld => ?_)
   clear hK K
   refine norm_ (a' := ?_) ?_ ?_
   rotate_left
   ·
    show Act.put _ (some 54) _ = _
    simp only [Act.put, List.setIfInBounds_toArray, List.set_cons_zero, List.set_cons_succ, i64_w, i32_w]
    rfl
   refine one_ (i := 6) (N := some 56) #[true, true, true, true, true, true, true, false] rfl rfl (one_of HT_.out (by kernel_rfl)) (by decide) (fun K hK => ?_)
   refine goes_ Try.func84 (by kernel_rfl) rfl #[.bool t562, .slice Ao125 t599.length co125, .slice Ao126 t575.length co126] (by rfl) rfl rfl (by (try simp only [List.map_toArray, List.map_cons, List.map_nil]); first | done | rfl | (simp only [List.length_drop, List.length_take]; rfl)) ?_
   with_reducible refine (codewrightref02_Make.calls k t562 _ _ t599 _ _ t575 t602 t603 t606 _ ?side1 ?side2 ?side3 ?side4 A93.out).mono ?_
   (case side1 => exact zC ((Kd.R_reads' HO601.out).2.2))
   (case side2 => exact (Kd.R_reads' HO601.out).2.1)
   (case side3 => exact zC ((Kd.R_reads' HO577.out).2.2))
   (case side4 => exact (Kd.R_reads' HO577.out).2.1)
   rintro e w127 ⟨v604, v607, rfl, ho0, ho1, hb⟩
   refine ⟨_, rfl, ?_⟩
   have n0_ := zA (Kd.R_mono (Kd.R_told (Kd.R_told (Kd.R_old (by exact zR HO558) hb) (Kd.R_base ho0)) (Kd.R_base ho1)) (fun _ h_ => h_.1))
   have n1_ := zA (Kd.R_mono (Kd.R_told (Kd.R_told (Kd.R_old (by exact zR HO561) hb) (Kd.R_base ho0)) (Kd.R_base ho1)) (fun _ h_ => h_.1))
   have n2_ := zA (Kd.R_mono (Kd.R_told (Kd.R_told (Kd.R_old (by exact zR HO565) hb) (Kd.R_base ho0)) (Kd.R_base ho1)) (fun _ h_ => h_.1))
   have n3_ := zA (Kd.R_mono (Kd.R_told (Kd.R_told (Kd.R_old (by exact zR HO568) hb) (Kd.R_base ho0)) (Kd.R_base ho1)) (fun _ h_ => h_.1))
   have n4_ := zA (Kd.R_mono (Kd.R_told (Kd.R_told (Kd.R_old (by exact zR HO571) hb) (Kd.R_base ho0)) (Kd.R_base ho1)) (fun _ h_ => h_.1))
   have n5_ := zA (Kd.R_mono (Kd.R_told (Kd.R_told (Kd.R_old (by exact zR HO574) hb) (Kd.R_base ho0)) (Kd.R_base ho1)) (fun _ h_ => h_.1))
   have n6_ := zA (Kd.R_mono (Kd.R_told (Kd.R_told (Kd.R_old (by exact zR HO577) hb) (Kd.R_base ho0)) (Kd.R_base ho1)) (fun _ h_ => h_.1))
   have n7_ := zA (Kd.R_mono (Kd.R_told (Kd.R_told (Kd.R_old (by exact zR HO601) hb) (Kd.R_base ho0)) (Kd.R_base ho1)) (fun _ h_ => h_.1))
   have n8_ := zA (Kd.R_lower (Kd.R_new' (Kd.R_new' (Kd.R_new' (Kd.R_new' (Kd.R_new' (Kd.R_new' (Kd.R_new' (Kd.R_new' ho0 (Kd.R_lt (by exact zR HO558))) (Kd.R_lt (by exact zR HO561))) (Kd.R_lt (by exact zR HO565))) (Kd.R_lt (by exact zR HO568))) (Kd.R_lt (by exact zR HO571))) (Kd.R_lt (by exact zR HO574))) (Kd.R_lt (by exact zR HO577))) (Kd.R_lt (by exact zR HO601))) (below_size (by repeat (first | (with_reducible first | exact HB.out | apply below_alloc | apply pw_below_drewN | apply below_drew1 | refine below_set ?_ GE552.out | refine below_set ?_ GE553.out | refine below_set ?_ GE554.out) | exact HB.out))))
   have n9_ := zA (Kd.R_lower (Kd.R_new' (Kd.R_new' (Kd.R_new' (Kd.R_new' (Kd.R_new' (Kd.R_new' (Kd.R_new' (Kd.R_new' ho1 (Kd.R_lt (by exact zR HO558))) (Kd.R_lt (by exact zR HO561))) (Kd.R_lt (by exact zR HO565))) (Kd.R_lt (by exact zR HO568))) (Kd.R_lt (by exact zR HO571))) (Kd.R_lt (by exact zR HO574))) (Kd.R_lt (by exact zR HO577))) (Kd.R_lt (by exact zR HO601))) (below_size (by repeat (first | (with_reducible first | exact HB.out | apply below_alloc | apply pw_below_drewN | apply below_drew1 | refine below_set ?_ GE552.out | refine below_set ?_ GE553.out | refine below_set ?_ GE554.out) | exact HB.out))))
   have n10_ := zA (blk_below (g := gb552) (o := .cells #[.bool t555, .slice Ao102 t556.length co102, .slice Ao103 t559.length co103] 52 (0, 0)) (by exact zK BK552) hb)
   have n11_ := zA (blk_below (g := gb553) (o := .cells #[.bool t562, .slice Ao108 t563.length co108, .slice Ao109 t566.length co109] 52 (0, 0)) (by exact zK BK553) hb)
   have n12_ := zA (blk_below (g := gb554) (o := .cells #[.bool false, .slice none 0 0, .slice none 0 0] 52 (0, 0)) (by exact zK BK554) hb)
   have n13_ := zA (below_step (by repeat (first | (with_reducible first | exact HB.out | apply below_alloc | apply pw_below_drewN | apply below_drew1 | refine below_set ?_ GE552.out | refine below_set ?_ GE553.out | refine below_set ?_ GE554.out) | exact HB.out)) hb)
   clear HO558
   clear HO561
   clear HO565
   clear HO568
   clear HO571
   clear HO574
   clear HO577
   clear HO601
   clear BK552
   clear BK553
   clear BK554
   clear HB
   have HO558 := n0_
   have HO561 := n1_
   have HO565 := n2_
   have HO568 := n3_
   have HO571 := n4_
   have HO574 := n5_
   have HO577 := n6_
   have HO601 := n7_
   have HO605 := n8_
   have HO608 := n9_
   have BK552 := n10_
   have BK553 := n11_
   have BK554 := n12_
   have HB := n13_
   clear n0_ n1_ n2_ n3_ n4_ n5_ n6_ n7_ n8_ n9_ n10_ n11_ n12_ n13_
   (try clear hb)
   (try clear hb2)
   (try clear hk)
   (try clear hi)
   (try clear ho0)
   (try clear ho1)
   obtain ⟨Ao129, co129, eo129⟩ := Kd.R_slice HO605.out
   (first | subst eo129 | (injection eo129 with f1_ f2_ f3_; have f4_ := f1_.symm; have f5_ := f3_.symm; clear f1_ f2_ f3_; subst f4_; subst f5_))
   obtain ⟨Ao131, co131, eo131⟩ := Kd.R_slice HO608.out
   (first | subst eo131 | (injection eo131 with f1_ f2_ f3_; have f4_ := f1_.symm; have f5_ := f3_.symm; clear f1_ f2_ f3_; subst f4_; subst f5_))
   refine hK.out _ _ ⟨(blk_cell BK553.out 0).trans rfl, (blk_cell BK553.out 1).trans rfl, (blk_cell BK553.out 2).trans rfl⟩ (fun hHeld => ?_)
   clear hK K
   refine norm_ (a' := ?_) ?_ ?_
   rotate_left
   ·
    show Act.put _ (some 56) _ = _
    simp only [Act.put, List.setIfInBounds_toArray, List.set_cons_zero, List.set_cons_succ, i64_w, i32_w]
    rfl
   refine one_ (i := 7) (N := none) #[true, true, true, true, true, true, true, true] rfl rfl (one_of HT_.out (by kernel_rfl)) (by decide) (fun K hK => ?_)
   have hs128 : w127.cell? ⟨gb554, 0, none⟩ = some (.bool false) := (blk_cell BK554.out 0).trans rfl
   have hfs128 := blk_frozen BK554.out 0
   have hns128_0 := NB552_554.out
   have hns128_1 := NB553_554.out
   have hms128_0 := NB554_552.out
   have hms128_1 := NB554_553.out
   have hs130 : w127.cell? ⟨gb554, 1, none⟩ = some (.slice none 0 0) := (blk_cell BK554.out 1).trans rfl
   have hfs130 := blk_frozen BK554.out 1
   have hns130_0 := NB552_554.out
   have hns130_1 := NB553_554.out
   have hms130_0 := NB554_552.out
   have hms130_1 := NB554_553.out
   have hs132 : w127.cell? ⟨gb554, 2, none⟩ = some (.slice none 0 0) := (blk_cell BK554.out 2).trans rfl
   have hfs132 := blk_frozen BK554.out 2
   have hns132_0 := NB552_554.out
   have hns132_1 := NB553_554.out
   have hms132_0 := NB554_552.out
   have hms132_1 := NB554_553.out
   refine skip_ (w1 := ?_) (by rfl) rfl ?_ ?_
   rotate_left
   ·
    go_simp
    rfl
   refine hK.out _ _ ⟨((cell_far (p := ⟨gb554, _, none⟩) NB553_554.out _).trans (((cell_far (p := ⟨gb554, _, none⟩) NB553_554.out _).trans (((cell_far (p := ⟨gb554, _, none⟩) NB553_554.out _).trans (hHeld.1)))))), ((cell_far (p := ⟨gb554, _, none⟩) NB553_554.out _).trans (((cell_far (p := ⟨gb554, _, none⟩) NB553_554.out _).trans (((cell_far (p := ⟨gb554, _, none⟩) NB553_554.out _).trans (hHeld.2.1)))))), ((cell_far (p := ⟨gb554, _, none⟩) NB553_554.out _).trans (((cell_far (p := ⟨gb554, _, none⟩) NB553_554.out _).trans (((cell_far (p := ⟨gb554, _, none⟩) NB553_554.out _).trans (hHeld.2.2))))))⟩ (fun hHeld => ?_)
   clear hK K
   refine done_ (done_of HT_.out (by kernel_rfl)) ?_
   try go_wp2
   refine bodyPost_ret (results_cell_row rfl _ _ gb554 52 #[.bool t602, .slice Ao129 t603.length co129, .slice Ao131 t606.length co131] (0, 0) _ rfl (by (with_reducible repeat (first | refine blk_drewN ?_ _ | refine blk_drew ?_ | refine blk_alloc ?_ _)); refine blk_put (cs := #[.bool t602, .slice Ao129 t603.length co129, .slice none 0 0]) ?_ 2 _ rfl; (with_reducible repeat (first | refine blk_drewN ?_ _ | refine blk_drew ?_ | refine blk_alloc ?_ _)); refine blk_put (cs := #[.bool t602, .slice none 0 0, .slice none 0 0]) ?_ 1 _ rfl; (with_reducible repeat (first | refine blk_drewN ?_ _ | refine blk_drew ?_ | refine blk_alloc ?_ _)); refine blk_put (cs := #[.bool false, .slice none 0 0, .slice none 0 0]) ?_ 0 _ rfl; exact zK BK554) Try.underlying52 rfl (by kernel_rfl)) rfl ?_
   exact ⟨_, _, by first | rfl | (simp [errW_none, errW_some] <;> rfl) | (simp [*, errW_none, errW_some] <;> rfl), by (with_reducible repeat (first | apply Kd.R_alloc | apply Kd.R_drewN | apply Kd.R_drew)); exact Kd.R_mono (Kd.R_far (p := ⟨gb554, 2, none⟩) (Kd.R_far (p := ⟨gb554, 1, none⟩) (Kd.R_far (p := ⟨gb554, 0, none⟩) (Kd.R_types HO605.out BK554.out (by decide)) (fun _ hk => hk.2) (.bool t602)) (fun _ hk => hk.2) (.slice Ao129 t603.length co129)) (fun _ hk => hk.2) (.slice Ao131 t606.length co131)) (fun _ hk => hk.1.1.1.1.1.1.1.1.1), by (with_reducible repeat (first | apply Kd.R_alloc | apply Kd.R_drewN | apply Kd.R_drew)); exact Kd.R_mono (Kd.R_far (p := ⟨gb554, 2, none⟩) (Kd.R_far (p := ⟨gb554, 1, none⟩) (Kd.R_far (p := ⟨gb554, 0, none⟩) (Kd.R_types HO608.out BK554.out (by decide)) (fun _ hk => hk.2) (.bool t602)) (fun _ hk => hk.2) (.slice Ao129 t603.length co129)) (fun _ hk => hk.2) (.slice Ao131 t606.length co131)) (fun _ hk => hk.1.1.1.1.1.1.1.1.1), by repeat (first | (with_reducible first | exact HB.out | apply below_alloc | apply pw_below_drewN | apply below_drew1 | refine below_set ?_ GE552.out | refine below_set ?_ GE553.out | refine below_set ?_ GE554.out) | exact HB.out)⟩
end Go.Proofs.Ytjignpnnmfdedaa.PChannelPatterns
