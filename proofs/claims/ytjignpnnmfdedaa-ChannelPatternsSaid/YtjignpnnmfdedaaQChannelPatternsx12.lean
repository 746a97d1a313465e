/- A part of the print of this row, cut down to what the row uses. -/
import Derived.Test.YtjignpnnmfdedaaQChannelPatternsx0
import Derived.Test.YtjignpnnmfdedaaQChannelPatternsx9
import Derived.Test.YtjignpnnmfdedaaQChannelPatternsx10
import Derived.Test.YtjignpnnmfdedaaQChannelPatternsWSq
-- printed by a scratch copy of the print, turned (wip/tools/turn_print.py)
namespace Go.Proofs.Ytjignpnnmfdedaa.PChannelPatterns
open Go.RowKit Go.Proofs.YtjignpnnmfdedaaW.PrintWords Go.Proofs.YtjignpnnmfdedaaW.PrintLast Go.Proofs.YtjignpnnmfdedaaW.PrintMore
attribute [local go_sem] max2_int min2_int max_two min_two max_three min_three max_four min_four   -- for this text's walks alone
set_option linter.unusedVariables false
set_option linter.unusedSimpArgs false
/-! ### codewrightref02_Mul: function 44 -/
def codewrightref02_Mul.f (k : Nat) (a0_0 : Bool) (l0_1 : List Int) (l0_2 : List Int) (a1_0 : Bool) (l1_1 : List Int) (l1_2 : List Int) : Option (Bool × List Int × List Int) := (codewrightref02_Trim.f k a0_0 l0_1 l0_2).bind fun bt612 => ((codewrightref02_Trim.f k a1_0 l1_1 l1_2).bind fun bt619 => ((codewrightref01_Mul.f k bt612.2.1 bt619.2.1).bind fun t626 => ((codewrightref01_Mul.f k bt612.2.2 bt619.2.2).bind fun t629 => ((codewrightref02_Make.f k (bt612.1 != bt619.1) t626 t629).bind fun bt632 => (some (bt632.1, bt632.2.1, bt632.2.2))))))
def codewrightref02_Mul.T3 : Bool × List (List Nat × List Nat) := (true, [([], []), ([0], [0]), ([], []), ([2], [2]), ([1, 3], [1, 3]), ([], []), ([5], [5]), ([], []), ([7], [7]), ([6, 8], [6, 8]), ([], []), ([10], [10]), ([], []), ([12], [12]), ([11, 13, 9], [11, 13]), ([4, 9, 14, 14], [4, 9, 14]), ([15, 15, 0, 1, 2, 3, 4, 5, 6, 7, 8, 9, 10, 11, 12, 13, 14, 15], [15])])
def codewrightref02_Mul.B3 : List Nat := [0, 1, 0, 4, 15, 0, 32, 0, 128, 480, 0, 1024, 0, 4096, 16352, 32767, 65535]
theorem codewrightref02_Mul.tab3 : rtab .any (opsOf Try.f44 3) = codewrightref02_Mul.T3 := by kernel_rfl
theorem codewrightref02_Mul.bits3 : waitsOk codewrightref02_Mul.T3.2 codewrightref02_Mul.B3 = true := by kernel_rfl
set_option maxHeartbeats 8000000 in
set_option maxRecDepth 100000 in
theorem codewrightref02_Mul.calls (k : Nat) (a0_0 : Bool) (A0_1 : Option Addr) (c0_1 : Nat) (l0_1 : List Int) (A0_2 : Option Addr) (c0_2 : Nat) (l0_2 : List Int) (a1_0 : Bool) (A1_1 : Option Addr) (c1_1 : Nat) (l1_1 : List Int) (A1_2 : Option Addr) (c1_2 : Nat) (l1_2 : List Int) (r1 : Bool) (r2 : List Int) (r3 : List Int) (w : World) (hr0_1 : Kd.C (Kd.int .u32) w A0_1 l0_1.length l0_1) (hc0_1 : l0_1.length ≤ c0_1) (hr0_2 : Kd.C (Kd.int .u32) w A0_2 l0_2.length l0_2) (hc0_2 : l0_2.length ≤ c0_2) (hr1_1 : Kd.C (Kd.int .u32) w A1_1 l1_1.length l1_1) (hc1_1 : l1_1.length ≤ c1_1) (hr1_2 : Kd.C (Kd.int .u32) w A1_2 l1_2.length l1_2) (hc1_2 : l1_2.length ≤ c1_2) (h : codewrightref02_Mul.f k a0_0 l0_1 l0_2 a1_0 l1_1 l1_2 = some (r1, r2, r3)) :
  Calls Try.prog 44 #[.agg #[.bool a0_0, .slice A0_1 l0_1.length c0_1, .slice A0_2 l0_2.length c0_2], .agg #[.bool a1_0, .slice A1_1 l1_1.length c1_1, .slice A1_2 l1_2.length c1_2]] w fun e w' => ∃ v1_ v2_ : Value, e = .returned (.agg #[.bool r1, v1_, v2_]) ∧ Kd.R (Kd.int .u32) 79 w' w.heap.size (fun k_ => some k_ ≠ (v2_ : Value).ownBlock) v1_ r2 ∧ Kd.R (Kd.int .u32) 79 w' w.heap.size (fun k_ => some k_ ≠ (v1_ : Value).ownBlock) v2_ r3 ∧ Below w.heap.size w w' := by
 have hu52 := Try.underlying52
 have HR0_1 := zA hr0_1
 have HC0_1 := zA hc0_1
 clear hr0_1 hc0_1
 have HR0_2 := zA hr0_2
 have HC0_2 := zA hc0_2
 clear hr0_2 hc0_2
 have HR1_1 := zA hr1_1
 have HC1_1 := zA hc1_1
 clear hr1_1 hc1_1
 have HR1_2 := zA hr1_2
 have HC1_2 := zA hc1_2
 clear hr1_2 hc1_2
 have HB := zA (Below.refl w.heap.size w)
 have H : ((codewrightref02_Trim.f k a0_0 l0_1 l0_2).bind fun bt612 => ((codewrightref02_Trim.f k a1_0 l1_1 l1_2).bind fun bt619 => ((codewrightref01_Mul.f k bt612.2.1 bt619.2.1).bind fun t626 => ((codewrightref01_Mul.f k bt612.2.2 bt619.2.2).bind fun t629 => ((codewrightref02_Make.f k (bt612.1 != bt619.1) t626 t629).bind fun bt632 => (some (bt632.1, bt632.2.1, bt632.2.2))))))) = some (r1, r2, r3) := h
 clear h
 replace H := Option.bind_eq_some_iff.mp H
 obtain ⟨⟨t612, t613, t616⟩, A30, H⟩ := H
 replace H : ((codewrightref02_Trim.f k a1_0 l1_1 l1_2).bind fun bt619 => ((codewrightref01_Mul.f k t613 bt619.2.1).bind fun t626 => ((codewrightref01_Mul.f k t616 bt619.2.2).bind fun t629 => ((codewrightref02_Make.f k (t612 != bt619.1) t626 t629).bind fun bt632 => (some (bt632.1, bt632.2.1, bt632.2.2)))))) = some (r1, r2, r3) := H
 have A3 := zA A30
 clear A30
 replace H := Option.bind_eq_some_iff.mp H
 obtain ⟨⟨t619, t620, t623⟩, A40, H⟩ := H
 replace H : ((codewrightref01_Mul.f k t613 t620).bind fun t626 => ((codewrightref01_Mul.f k t616 t623).bind fun t629 => ((codewrightref02_Make.f k (t612 != t619) t626 t629).bind fun bt632 => (some (bt632.1, bt632.2.1, bt632.2.2))))) = some (r1, r2, r3) := H
 have A4 := zA A40
 clear A40
 replace H := Option.bind_eq_some_iff.mp H
 obtain ⟨t626, A50, H⟩ := H
 replace H : ((codewrightref01_Mul.f k t616 t623).bind fun t629 => ((codewrightref02_Make.f k (t612 != t619) t626 t629).bind fun bt632 => (some (bt632.1, bt632.2.1, bt632.2.2)))) = some (r1, r2, r3) := H
 have A5 := zA A50
 clear A50
 replace H := Option.bind_eq_some_iff.mp H
 obtain ⟨t629, A60, H⟩ := H
 replace H : ((codewrightref02_Make.f k (t612 != t619) t626 t629).bind fun bt632 => (some (bt632.1, bt632.2.1, bt632.2.2))) = some (r1, r2, r3) := H
 have A6 := zA A60
 clear A60
 replace H := Option.bind_eq_some_iff.mp H
 obtain ⟨⟨t632, t633, t636⟩, A70, H⟩ := H
 replace H : (some (t632, t633, t636)) = some (r1, r2, r3) := H
 have A7 := zA A70
 clear A70
 simp only [Option.some.injEq, Prod.mk.injEq] at H
 obtain ⟨rfl, rfl, rfl⟩ := H
 go_enter Try.func44, Try.ntmps44
 try go_wp2_with (first | ((with_reducible refine gate_dst (N := 2) rfl ?_); refine box_event ?hg (N := 2) ?hd (cs := #[.bool a0_0, .slice A0_1 l0_1.length c0_1, .slice A0_2 l0_2.length c0_2]) (t := 52) ?hr ?_; (case hd => rfl); (case hg => rfl); (case hr => first | (go_simp; done) | (go_simp; rfl)); intro gb609 hg w8 hbox hb; have BK609 := zA (hbox); have GW609 := zA ((by rw [hg]; exact (below_size (by exact zB HB)) : w.heap.size ≤ gb609)); have GE609 := zA ((by rw [hg]; exact (below_size (by exact zB HB)) : w.heap.size ≤ gb609)); replace HB := zA (below_step (by exact zB HB) hb); clear hb hbox hg) | ((with_reducible refine gate_dst (N := 3) rfl ?_); refine box_event ?hg (N := 3) ?hd (cs := #[.bool a1_0, .slice A1_1 l1_1.length c1_1, .slice A1_2 l1_2.length c1_2]) (t := 52) ?hr ?_; (case hd => rfl); (case hg => rfl); (case hr => first | (go_simp; done) | (go_simp; rfl)); intro gb610 hg w9 hbox hb; have BK610 := zA (hbox); have GW610 := zA ((by rw [hg]; exact (below_size (by repeat (first | (with_reducible first | exact HB.out | apply below_alloc | apply pw_below_drewN | apply below_drew1 | refine below_set ?_ GE609.out) | exact HB.out))) : w.heap.size ≤ gb610)); have GE610 := zA ((by rw [hg]; exact (below_size (by repeat (first | (with_reducible first | exact HB.out | apply below_alloc | apply pw_below_drewN | apply below_drew1 | refine below_set ?_ GE609.out) | exact HB.out))) : w.heap.size ≤ gb610)); replace HB := zA (below_step (by repeat (first | (with_reducible first | exact HB.out | apply below_alloc | apply pw_below_drewN | apply below_drew1 | refine below_set ?_ GE609.out) | exact HB.out)) hb); have NB609_610 := zA ((by rw [hg]; exact Nat.ne_of_lt (blk_lt (g := gb609) (o := .cells #[.bool a0_0, .slice A0_1 l0_1.length c0_1, .slice A0_2 l0_2.length c0_2] 52 (0, 0)) (by exact zK BK609)) : gb609 ≠ gb610)); have NB610_609 := zA ((by rw [hg]; exact Nat.ne_of_gt (blk_lt (g := gb609) (o := .cells #[.bool a0_0, .slice A0_1 l0_1.length c0_1, .slice A0_2 l0_2.length c0_2] 52 (0, 0)) (by exact zK BK609)) : gb610 ≠ gb609)); replace BK609 := zA (blk_below (g := gb609) (o := .cells #[.bool a0_0, .slice A0_1 l0_1.length c0_1, .slice A0_2 l0_2.length c0_2] 52 (0, 0)) (by exact zK BK609) hb); clear hb hbox hg) | ((with_reducible refine gate_dst (N := 4) rfl ?_); refine box_event ?hg (N := 4) ?hd (cs := #[.bool false, .slice none 0 0, .slice none 0 0]) (t := 52) ?hr ?_; (case hd => rfl); (case hg => rfl); (case hr => first | (go_simp; done) | (go_simp; rfl)); intro gb611 hg w10 hbox hb; have BK611 := zA (hbox); have GW611 := zA ((by rw [hg]; exact (below_size (by repeat (first | (with_reducible first | exact HB.out | apply below_alloc | apply pw_below_drewN | apply below_drew1 | refine below_set ?_ GE609.out | refine below_set ?_ GE610.out) | exact HB.out))) : w.heap.size ≤ gb611)); have GE611 := zA ((by rw [hg]; exact (below_size (by repeat (first | (with_reducible first | exact HB.out | apply below_alloc | apply pw_below_drewN | apply below_drew1 | refine below_set ?_ GE609.out | refine below_set ?_ GE610.out) | exact HB.out))) : w.heap.size ≤ gb611)); replace HB := zA (below_step (by repeat (first | (with_reducible first | exact HB.out | apply below_alloc | apply pw_below_drewN | apply below_drew1 | refine below_set ?_ GE609.out | refine below_set ?_ GE610.out) | exact HB.out)) hb); have NB609_611 := zA ((by rw [hg]; exact Nat.ne_of_lt (blk_lt (g := gb609) (o := .cells #[.bool a0_0, .slice A0_1 l0_1.length c0_1, .slice A0_2 l0_2.length c0_2] 52 (0, 0)) (by exact zK BK609)) : gb609 ≠ gb611)); have NB611_609 := zA ((by rw [hg]; exact Nat.ne_of_gt (blk_lt (g := gb609) (o := .cells #[.bool a0_0, .slice A0_1 l0_1.length c0_1, .slice A0_2 l0_2.length c0_2] 52 (0, 0)) (by exact zK BK609)) : gb611 ≠ gb609)); replace BK609 := zA (blk_below (g := gb609) (o := .cells #[.bool a0_0, .slice A0_1 l0_1.length c0_1, .slice A0_2 l0_2.length c0_2] 52 (0, 0)) (by exact zK BK609) hb); have NB610_611 := zA ((by rw [hg]; exact Nat.ne_of_lt (blk_lt (g := gb610) (o := .cells #[.bool a1_0, .slice A1_1 l1_1.length c1_1, .slice A1_2 l1_2.length c1_2] 52 (0, 0)) (by exact zK BK610)) : gb610 ≠ gb611)); have NB611_610 := zA ((by rw [hg]; exact Nat.ne_of_gt (blk_lt (g := gb610) (o := .cells #[.bool a1_0, .slice A1_1 l1_1.length c1_1, .slice A1_2 l1_2.length c1_2] 52 (0, 0)) (by exact zK BK610)) : gb611 ≠ gb610)); replace BK610 := zA (blk_below (g := gb610) (o := .cells #[.bool a1_0, .slice A1_1 l1_1.length c1_1, .slice A1_2 l1_2.length c1_2] 52 (0, 0)) (by exact zK BK610) hb); clear hb hbox hg; have hnb11 := NB609_610.out; have hnc11 := NB610_609.out; have hnb12 := NB609_611.out; have hnc12 := NB611_609.out; have hcz13_0 : w10.cell? ⟨gb609, 0, none⟩ = some (.bool a0_0) := (blk_cell BK609.out 0).trans rfl; have hcz13_1 : w10.cell? ⟨gb609, 1, none⟩ = some (.slice A0_1 l0_1.length c0_1) := (blk_cell BK609.out 1).trans rfl; have hcz13_2 : w10.cell? ⟨gb609, 2, none⟩ = some (.slice A0_2 l0_2.length c0_2) := (blk_cell BK609.out 2).trans rfl; have hfz13_0 := blk_frozen BK609.out 0; have hfz13_1 := blk_frozen BK609.out 1; have hfz13_2 := blk_frozen BK609.out 2) | ((with_reducible refine gate_callee (f := 83) rfl ?_); refine goesL_ (some 6) rfl rfl Try.func83 (by kernel_rfl) rfl #[.agg #[.bool a0_0, .slice A0_1 l0_1.length c0_1, .slice A0_2 l0_2.length c0_2]] rfl (by (try simp only [List.map_toArray, List.map_cons, List.map_nil]); first | done | rfl | (simp only [List.length_drop, List.length_take]; rfl)) ?_; (with_reducible refine (codewrightref02_Trim.calls k a0_0 _ _ l0_1 _ _ l0_2 t612 t613 t616 _ ?side1 ?side2 ?side3 ?side4 A3.out).mono ?_); (case side1 => exact zC ((Kd.C_below HR0_1.out HB.out))); (case side2 => exact HC0_1.out); (case side3 => exact zC ((Kd.C_below HR0_2.out HB.out))); (case side4 => exact HC0_2.out); rintro e w14 ⟨v614, v617, rfl, ho0, ho1, hb⟩; refine ⟨_, rfl, ?_⟩; have HO615 := zA (Kd.R_lower ho0 (below_size (by repeat (first | (with_reducible first | exact HB.out | apply below_alloc | apply pw_below_drewN | apply below_drew1 | refine below_set ?_ GE609.out | refine below_set ?_ GE610.out | refine below_set ?_ GE611.out) | exact HB.out)))); have HO618 := zA (Kd.R_lower ho1 (below_size (by repeat (first | (with_reducible first | exact HB.out | apply below_alloc | apply pw_below_drewN | apply below_drew1 | refine below_set ?_ GE609.out | refine below_set ?_ GE610.out | refine below_set ?_ GE611.out) | exact HB.out)))); replace BK609 := zA (blk_below (g := gb609) (o := .cells #[.bool a0_0, .slice A0_1 l0_1.length c0_1, .slice A0_2 l0_2.length c0_2] 52 (0, 0)) (by exact zK BK609) hb); replace BK610 := zA (blk_below (g := gb610) (o := .cells #[.bool a1_0, .slice A1_1 l1_1.length c1_1, .slice A1_2 l1_2.length c1_2] 52 (0, 0)) (by exact zK BK610) hb); replace BK611 := zA (blk_below (g := gb611) (o := .cells #[.bool false, .slice none 0 0, .slice none 0 0] 52 (0, 0)) (by exact zK BK611) hb); replace HB := zA (below_step (by repeat (first | (with_reducible first | exact HB.out | apply below_alloc | apply pw_below_drewN | apply below_drew1 | refine below_set ?_ GE609.out | refine below_set ?_ GE610.out | refine below_set ?_ GE611.out) | exact HB.out)) hb); (try clear hb ho0 ho1); have hcz15_0 : w14.cell? ⟨gb609, 0, none⟩ = some (.bool a0_0) := (blk_cell BK609.out 0).trans rfl; have hcz15_1 : w14.cell? ⟨gb609, 1, none⟩ = some (.slice A0_1 l0_1.length c0_1) := (blk_cell BK609.out 1).trans rfl; have hcz15_2 : w14.cell? ⟨gb609, 2, none⟩ = some (.slice A0_2 l0_2.length c0_2) := (blk_cell BK609.out 2).trans rfl; have hfz15_0 := blk_frozen BK609.out 0; have hfz15_1 := blk_frozen BK609.out 1; have hfz15_2 := blk_frozen BK609.out 2; obtain ⟨Ao16, co16, eo16⟩ := Kd.R_slice HO615.out; subst eo16; obtain ⟨Ao17, co17, eo17⟩ := Kd.R_slice HO618.out; subst eo17; have hnb18 := NB610_611.out; have hnc18 := NB611_610.out; have hcz19_0 : w14.cell? ⟨gb610, 0, none⟩ = some (.bool a1_0) := (blk_cell BK610.out 0).trans rfl; have hcz19_1 : w14.cell? ⟨gb610, 1, none⟩ = some (.slice A1_1 l1_1.length c1_1) := (blk_cell BK610.out 1).trans rfl; have hcz19_2 : w14.cell? ⟨gb610, 2, none⟩ = some (.slice A1_2 l1_2.length c1_2) := (blk_cell BK610.out 2).trans rfl; have hfz19_0 := blk_frozen BK610.out 0; have hfz19_1 := blk_frozen BK610.out 1; have hfz19_2 := blk_frozen BK610.out 2) | ((with_reducible refine gate_callee (f := 83) rfl ?_); refine goesL_ (some 8) rfl rfl Try.func83 (by kernel_rfl) rfl #[.agg #[.bool a1_0, .slice A1_1 l1_1.length c1_1, .slice A1_2 l1_2.length c1_2]] rfl (by (try simp only [List.map_toArray, List.map_cons, List.map_nil]); first | done | rfl | (simp only [List.length_drop, List.length_take]; rfl)) ?_; (with_reducible refine (codewrightref02_Trim.calls k a1_0 _ _ l1_1 _ _ l1_2 t619 t620 t623 _ ?side1 ?side2 ?side3 ?side4 A4.out).mono ?_); (case side1 => exact Kd.C_below HR1_1.out (by repeat (first | (with_reducible first | exact HB.out | apply below_alloc | apply pw_below_drewN | apply below_drew1 | refine below_set ?_ GE609.out | refine below_set ?_ GE610.out | refine below_set ?_ GE611.out) | exact HB.out))); (case side2 => exact HC1_1.out); (case side3 => exact Kd.C_below HR1_2.out (by repeat (first | (with_reducible first | exact HB.out | apply below_alloc | apply pw_below_drewN | apply below_drew1 | refine below_set ?_ GE609.out | refine below_set ?_ GE610.out | refine below_set ?_ GE611.out) | exact HB.out))); (case side4 => exact HC1_2.out); rintro e w20 ⟨v621, v624, rfl, ho0, ho1, hb⟩; refine ⟨_, rfl, ?_⟩; have HO622 := zA (Kd.R_lower (Kd.R_new' (Kd.R_new' ho0 (Kd.R_lt (by (with_reducible repeat (first | apply Kd.R_alloc | apply Kd.R_drewN | apply Kd.R_drew)); exact (Kd.R_mono (Kd.R_far (p := ⟨gb609, 2, none⟩) (Kd.R_far (p := ⟨gb609, 1, none⟩) (Kd.R_far (p := ⟨gb609, 0, none⟩) (Kd.R_types HO615.out BK609.out (by decide)) (fun _ hk => hk.2) (.bool t612)) (fun _ hk => hk.2) (.slice Ao16 t613.length co16)) (fun _ hk => hk.2) (.slice Ao17 t616.length co17)) (fun _ h_ => h_.1))))) (Kd.R_lt (by (with_reducible repeat (first | apply Kd.R_alloc | apply Kd.R_drewN | apply Kd.R_drew)); exact (Kd.R_mono (Kd.R_far (p := ⟨gb609, 2, none⟩) (Kd.R_far (p := ⟨gb609, 1, none⟩) (Kd.R_far (p := ⟨gb609, 0, none⟩) (Kd.R_types HO618.out BK609.out (by decide)) (fun _ hk => hk.2) (.bool t612)) (fun _ hk => hk.2) (.slice Ao16 t613.length co16)) (fun _ hk => hk.2) (.slice Ao17 t616.length co17)) (fun _ h_ => h_.1))))) (below_size (by repeat (first | (with_reducible first | exact HB.out | apply below_alloc | apply pw_below_drewN | apply below_drew1 | refine below_set ?_ GE609.out | refine below_set ?_ GE610.out | refine below_set ?_ GE611.out) | exact HB.out)))); have HO625 := zA (Kd.R_lower (Kd.R_new' (Kd.R_new' ho1 (Kd.R_lt (by (with_reducible repeat (first | apply Kd.R_alloc | apply Kd.R_drewN | apply Kd.R_drew)); exact (Kd.R_mono (Kd.R_far (p := ⟨gb609, 2, none⟩) (Kd.R_far (p := ⟨gb609, 1, none⟩) (Kd.R_far (p := ⟨gb609, 0, none⟩) (Kd.R_types HO615.out BK609.out (by decide)) (fun _ hk => hk.2) (.bool t612)) (fun _ hk => hk.2) (.slice Ao16 t613.length co16)) (fun _ hk => hk.2) (.slice Ao17 t616.length co17)) (fun _ h_ => h_.1))))) (Kd.R_lt (by (with_reducible repeat (first | apply Kd.R_alloc | apply Kd.R_drewN | apply Kd.R_drew)); exact (Kd.R_mono (Kd.R_far (p := ⟨gb609, 2, none⟩) (Kd.R_far (p := ⟨gb609, 1, none⟩) (Kd.R_far (p := ⟨gb609, 0, none⟩) (Kd.R_types HO618.out BK609.out (by decide)) (fun _ hk => hk.2) (.bool t612)) (fun _ hk => hk.2) (.slice Ao16 t613.length co16)) (fun _ hk => hk.2) (.slice Ao17 t616.length co17)) (fun _ h_ => h_.1))))) (below_size (by repeat (first | (with_reducible first | exact HB.out | apply below_alloc | apply pw_below_drewN | apply below_drew1 | refine below_set ?_ GE609.out | refine below_set ?_ GE610.out | refine below_set ?_ GE611.out) | exact HB.out)))); replace HO615 := zA (Kd.R_mono (Kd.R_told (Kd.R_told (Kd.R_old (by (with_reducible repeat (first | apply Kd.R_alloc | apply Kd.R_drewN | apply Kd.R_drew)); exact (Kd.R_mono (Kd.R_far (p := ⟨gb609, 2, none⟩) (Kd.R_far (p := ⟨gb609, 1, none⟩) (Kd.R_far (p := ⟨gb609, 0, none⟩) (Kd.R_types HO615.out BK609.out (by decide)) (fun _ hk => hk.2) (.bool t612)) (fun _ hk => hk.2) (.slice Ao16 t613.length co16)) (fun _ hk => hk.2) (.slice Ao17 t616.length co17)) (fun _ h_ => h_.1))) hb) (Kd.R_base ho0)) (Kd.R_base ho1)) (fun _ h_ => h_.1)); replace HO618 := zA (Kd.R_mono (Kd.R_told (Kd.R_told (Kd.R_old (by (with_reducible repeat (first | apply Kd.R_alloc | apply Kd.R_drewN | apply Kd.R_drew)); exact (Kd.R_mono (Kd.R_far (p := ⟨gb609, 2, none⟩) (Kd.R_far (p := ⟨gb609, 1, none⟩) (Kd.R_far (p := ⟨gb609, 0, none⟩) (Kd.R_types HO618.out BK609.out (by decide)) (fun _ hk => hk.2) (.bool t612)) (fun _ hk => hk.2) (.slice Ao16 t613.length co16)) (fun _ hk => hk.2) (.slice Ao17 t616.length co17)) (fun _ h_ => h_.1))) hb) (Kd.R_base ho0)) (Kd.R_base ho1)) (fun _ h_ => h_.1)); replace BK609 := zA (blk_below (g := gb609) (o := .cells #[.bool t612, .slice Ao16 t613.length co16, .slice Ao17 t616.length co17] 52 (0, 0)) (by (with_reducible repeat (first | refine blk_drewN ?_ _ | refine blk_drew ?_ | refine blk_alloc ?_ _)); refine blk_put (cs := #[.bool t612, .slice Ao16 t613.length co16, .slice A0_2 l0_2.length c0_2]) ?_ 2 _ rfl; (with_reducible repeat (first | refine blk_drewN ?_ _ | refine blk_drew ?_ | refine blk_alloc ?_ _)); refine blk_put (cs := #[.bool t612, .slice A0_1 l0_1.length c0_1, .slice A0_2 l0_2.length c0_2]) ?_ 1 _ rfl; (with_reducible repeat (first | refine blk_drewN ?_ _ | refine blk_drew ?_ | refine blk_alloc ?_ _)); refine blk_put (cs := #[.bool a0_0, .slice A0_1 l0_1.length c0_1, .slice A0_2 l0_2.length c0_2]) ?_ 0 _ rfl; exact zK BK609) hb); replace BK610 := zA (blk_below (g := gb610) (o := .cells #[.bool a1_0, .slice A1_1 l1_1.length c1_1, .slice A1_2 l1_2.length c1_2] 52 (0, 0)) (by (with_reducible repeat (first | refine blk_drewN ?_ _ | refine blk_drew ?_ | refine blk_alloc ?_ _)); refine blk_far ?_ NB610_609.out _; (with_reducible repeat (first | refine blk_drewN ?_ _ | refine blk_drew ?_ | refine blk_alloc ?_ _)); refine blk_far ?_ NB610_609.out _; (with_reducible repeat (first | refine blk_drewN ?_ _ | refine blk_drew ?_ | refine blk_alloc ?_ _)); refine blk_far ?_ NB610_609.out _; exact zK BK610) hb); replace BK611 := zA (blk_below (g := gb611) (o := .cells #[.bool false, .slice none 0 0, .slice none 0 0] 52 (0, 0)) (by (with_reducible repeat (first | refine blk_drewN ?_ _ | refine blk_drew ?_ | refine blk_alloc ?_ _)); refine blk_far ?_ NB611_609.out _; (with_reducible repeat (first | refine blk_drewN ?_ _ | refine blk_drew ?_ | refine blk_alloc ?_ _)); refine blk_far ?_ NB611_609.out _; (with_reducible repeat (first | refine blk_drewN ?_ _ | refine blk_drew ?_ | refine blk_alloc ?_ _)); refine blk_far ?_ NB611_609.out _; exact zK BK611) hb); replace HB := zA (below_step (by repeat (first | (with_reducible first | exact HB.out | apply below_alloc | apply pw_below_drewN | apply below_drew1 | refine below_set ?_ GE609.out | refine below_set ?_ GE610.out | refine below_set ?_ GE611.out) | exact HB.out)) hb); (try clear hb ho0 ho1); have hcz21_0 : w20.cell? ⟨gb610, 0, none⟩ = some (.bool a1_0) := (blk_cell BK610.out 0).trans rfl; have hcz21_1 : w20.cell? ⟨gb610, 1, none⟩ = some (.slice A1_1 l1_1.length c1_1) := (blk_cell BK610.out 1).trans rfl; have hcz21_2 : w20.cell? ⟨gb610, 2, none⟩ = some (.slice A1_2 l1_2.length c1_2) := (blk_cell BK610.out 2).trans rfl; have hfz21_0 := blk_frozen BK610.out 0; have hfz21_1 := blk_frozen BK610.out 1; have hfz21_2 := blk_frozen BK610.out 2; obtain ⟨Ao22, co22, eo22⟩ := Kd.R_slice HO622.out; subst eo22; obtain ⟨Ao23, co23, eo23⟩ := Kd.R_slice HO625.out; subst eo23))
 have n0_ : Aside0 (Kd.R (Kd.int .u32) 79 (((w20.setCell ⟨gb610, 0, none⟩ (.bool t619)).setCell ⟨gb610, 1, none⟩ (.slice Ao22 t620.length co22)).setCell ⟨gb610, 2, none⟩ (.slice Ao23 t623.length co23)) w.heap.size (fun k_ => some k_ ≠ (.slice Ao17 t616.length co17 : Value).ownBlock ∧ some k_ ≠ (.slice Ao22 t620.length co22 : Value).ownBlock ∧ some k_ ≠ (.slice Ao23 t623.length co23 : Value).ownBlock) (.slice Ao16 t613.length co16) t613) := ⟨by (with_reducible repeat (first | apply Kd.R_alloc | apply Kd.R_drewN | apply Kd.R_drew)); exact Kd.R_mono (Kd.R_far (p := ⟨gb610, 2, none⟩) (Kd.R_far (p := ⟨gb610, 1, none⟩) (Kd.R_far (p := ⟨gb610, 0, none⟩) (Kd.R_types HO615.out BK610.out (by decide)) (fun _ hk => hk.2) (.bool t619)) (fun _ hk => hk.2) (.slice Ao22 t620.length co22)) (fun _ hk => hk.2) (.slice Ao23 t623.length co23)) (fun _ hk => ⟨hk.1.1.1, ⟨hk.1.1.2, hk.1.2⟩⟩)⟩
 have n1_ : Aside0 (Kd.R (Kd.int .u32) 79 (((w20.setCell ⟨gb610, 0, none⟩ (.bool t619)).setCell ⟨gb610, 1, none⟩ (.slice Ao22 t620.length co22)).setCell ⟨gb610, 2, none⟩ (.slice Ao23 t623.length co23)) w.heap.size (fun k_ => some k_ ≠ (.slice Ao16 t613.length co16 : Value).ownBlock ∧ some k_ ≠ (.slice Ao22 t620.length co22 : Value).ownBlock ∧ some k_ ≠ (.slice Ao23 t623.length co23 : Value).ownBlock) (.slice Ao17 t616.length co17) t616) := ⟨by (with_reducible repeat (first | apply Kd.R_alloc | apply Kd.R_drewN | apply Kd.R_drew)); exact Kd.R_mono (Kd.R_far (p := ⟨gb610, 2, none⟩) (Kd.R_far (p := ⟨gb610, 1, none⟩) (Kd.R_far (p := ⟨gb610, 0, none⟩) (Kd.R_types HO618.out BK610.out (by decide)) (fun _ hk => hk.2) (.bool t619)) (fun _ hk => hk.2) (.slice Ao22 t620.length co22)) (fun _ hk => hk.2) (.slice Ao23 t623.length co23)) (fun _ hk => ⟨hk.1.1.1, ⟨hk.1.1.2, hk.1.2⟩⟩)⟩
 have n2_ : Aside0 (Kd.R (Kd.int .u32) 79 (((w20.setCell ⟨gb610, 0, none⟩ (.bool t619)).setCell ⟨gb610, 1, none⟩ (.slice Ao22 t620.length co22)).setCell ⟨gb610, 2, none⟩ (.slice Ao23 t623.length co23)) w.heap.size (fun k_ => some k_ ≠ (.slice Ao16 t613.length co16 : Value).ownBlock ∧ some k_ ≠ (.slice Ao17 t616.length co17 : Value).ownBlock ∧ some k_ ≠ (.slice Ao23 t623.length co23 : Value).ownBlock) (.slice Ao22 t620.length co22) t620) := ⟨by (with_reducible repeat (first | apply Kd.R_alloc | apply Kd.R_drewN | apply Kd.R_drew)); exact Kd.R_mono (Kd.R_far (p := ⟨gb610, 2, none⟩) (Kd.R_far (p := ⟨gb610, 1, none⟩) (Kd.R_far (p := ⟨gb610, 0, none⟩) (Kd.R_types HO622.out BK610.out (by decide)) (fun _ hk => hk.2) (.bool t619)) (fun _ hk => hk.2) (.slice Ao22 t620.length co22)) (fun _ hk => hk.2) (.slice Ao23 t623.length co23)) (fun _ hk => ⟨hk.1.1.2, ⟨hk.1.2, hk.1.1.1⟩⟩)⟩
 have n3_ : Aside0 (Kd.R (Kd.int .u32) 79 (((w20.setCell ⟨gb610, 0, none⟩ (.bool t619)).setCell ⟨gb610, 1, none⟩ (.slice Ao22 t620.length co22)).setCell ⟨gb610, 2, none⟩ (.slice Ao23 t623.length co23)) w.heap.size (fun k_ => some k_ ≠ (.slice Ao16 t613.length co16 : Value).ownBlock ∧ some k_ ≠ (.slice Ao17 t616.length co17 : Value).ownBlock ∧ some k_ ≠ (.slice Ao22 t620.length co22 : Value).ownBlock) (.slice Ao23 t623.length co23) t623) := ⟨by (with_reducible repeat (first | apply Kd.R_alloc | apply Kd.R_drewN | apply Kd.R_drew)); exact Kd.R_mono (Kd.R_far (p := ⟨gb610, 2, none⟩) (Kd.R_far (p := ⟨gb610, 1, none⟩) (Kd.R_far (p := ⟨gb610, 0, none⟩) (Kd.R_types HO625.out BK610.out (by decide)) (fun _ hk => hk.2) (.bool t619)) (fun _ hk => hk.2) (.slice Ao22 t620.length co22)) (fun _ hk => hk.2) (.slice Ao23 t623.length co23)) (fun _ hk => ⟨hk.1.1.2, ⟨hk.1.2, hk.1.1.1⟩⟩)⟩
 have n4_ : Aside0 ((((w20.setCell ⟨gb610, 0, none⟩ (.bool t619)).setCell ⟨gb610, 1, none⟩ (.slice Ao22 t620.length co22)).setCell ⟨gb610, 2, none⟩ (.slice Ao23 t623.length co23)).heap[gb609]? = some (.cells #[.bool t612, .slice Ao16 t613.length co16, .slice Ao17 t616.length co17] 52 (0, 0))) := ⟨by (with_reducible repeat (first | refine blk_drewN ?_ _ | refine blk_drew ?_ | refine blk_alloc ?_ _)); refine blk_far ?_ NB609_610.out _; (with_reducible repeat (first | refine blk_drewN ?_ _ | refine blk_drew ?_ | refine blk_alloc ?_ _)); refine blk_far ?_ NB609_610.out _; (with_reducible repeat (first | refine blk_drewN ?_ _ | refine blk_drew ?_ | refine blk_alloc ?_ _)); refine blk_far ?_ NB609_610.out _; exact zK BK609⟩
 have n5_ : Aside0 ((((w20.setCell ⟨gb610, 0, none⟩ (.bool t619)).setCell ⟨gb610, 1, none⟩ (.slice Ao22 t620.length co22)).setCell ⟨gb610, 2, none⟩ (.slice Ao23 t623.length co23)).heap[gb610]? = some (.cells #[.bool t619, .slice Ao22 t620.length co22, .slice Ao23 t623.length co23] 52 (0, 0))) := ⟨by (with_reducible repeat (first | refine blk_drewN ?_ _ | refine blk_drew ?_ | refine blk_alloc ?_ _)); refine blk_put (cs := #[.bool t619, .slice Ao22 t620.length co22, .slice A1_2 l1_2.length c1_2]) ?_ 2 _ rfl; (with_reducible repeat (first | refine blk_drewN ?_ _ | refine blk_drew ?_ | refine blk_alloc ?_ _)); refine blk_put (cs := #[.bool t619, .slice A1_1 l1_1.length c1_1, .slice A1_2 l1_2.length c1_2]) ?_ 1 _ rfl; (with_reducible repeat (first | refine blk_drewN ?_ _ | refine blk_drew ?_ | refine blk_alloc ?_ _)); refine blk_put (cs := #[.bool a1_0, .slice A1_1 l1_1.length c1_1, .slice A1_2 l1_2.length c1_2]) ?_ 0 _ rfl; exact zK BK610⟩
 have n6_ : Aside0 ((((w20.setCell ⟨gb610, 0, none⟩ (.bool t619)).setCell ⟨gb610, 1, none⟩ (.slice Ao22 t620.length co22)).setCell ⟨gb610, 2, none⟩ (.slice Ao23 t623.length co23)).heap[gb611]? = some (.cells #[.bool false, .slice none 0 0, .slice none 0 0] 52 (0, 0))) := ⟨by (with_reducible repeat (first | refine blk_drewN ?_ _ | refine blk_drew ?_ | refine blk_alloc ?_ _)); refine blk_far ?_ NB611_610.out _; (with_reducible repeat (first | refine blk_drewN ?_ _ | refine blk_drew ?_ | refine blk_alloc ?_ _)); refine blk_far ?_ NB611_610.out _; (with_reducible repeat (first | refine blk_drewN ?_ _ | refine blk_drew ?_ | refine blk_alloc ?_ _)); refine blk_far ?_ NB611_610.out _; exact zK BK611⟩
 have n7_ : Aside0 (Below w.heap.size w (((w20.setCell ⟨gb610, 0, none⟩ (.bool t619)).setCell ⟨gb610, 1, none⟩ (.slice Ao22 t620.length co22)).setCell ⟨gb610, 2, none⟩ (.slice Ao23 t623.length co23))) := ⟨by repeat (first | (with_reducible first | exact HB.out | apply below_alloc | apply pw_below_drewN | apply below_drew1 | refine below_set ?_ GE609.out | refine below_set ?_ GE610.out | refine below_set ?_ GE611.out) | exact HB.out)⟩
 (try clear HO615)
 (try clear HO618)
 (try clear HO622)
 (try clear HO625)
 (try clear BK609)
 (try clear BK610)
 (try clear BK611)
 (try clear HB)
 generalize (((w20.setCell ⟨gb610, 0, none⟩ (.bool t619)).setCell ⟨gb610, 1, none⟩ (.slice Ao22 t620.length co22)).setCell ⟨gb610, 2, none⟩ (.slice Ao23 t623.length co23)) = w24 at n0_ n1_ n2_ n3_ n4_ n5_ n6_ n7_ ⊢
 have HO615 := n0_
 have HO618 := n1_
 have HO622 := n2_
 have HO625 := n3_
 have BK609 := n4_
 have BK610 := n5_
 have BK611 := n6_
 have HB := n7_
 clear n0_ n1_ n2_ n3_ n4_ n5_ n6_ n7_
 have n0_ := zA (Kd.R_drew HO615.out)
 have n1_ := zA (Kd.R_drew HO618.out)
 have n2_ := zA (Kd.R_drew HO622.out)
 have n3_ := zA (Kd.R_drew HO625.out)
 have n4_ := zA (blk_drew BK609.out)
 have n5_ := zA (blk_drew BK610.out)
 have n6_ := zA (blk_drew BK611.out)
 have n7_ := zA (below_drew1 HB.out)
 clear HO615
 clear HO618
 clear HO622
 clear HO625
 clear BK609
 clear BK610
 clear BK611
 clear HB
 have HO615 := n0_
 have HO618 := n1_
 have HO622 := n2_
 have HO625 := n3_
 have BK609 := n4_
 have BK610 := n5_
 have BK611 := n6_
 have HB := n7_
 clear n0_ n1_ n2_ n3_ n4_ n5_ n6_ n7_
 refine start_ (n := 17) (S := fun w' => w'.cell? ⟨gb609, 0, none⟩ = some (.bool t612) ∧ w'.cell? ⟨gb609, 1, none⟩ = some (.slice Ao16 t613.length co16) ∧ w'.cell? ⟨gb609, 2, none⟩ = some (.slice Ao17 t616.length co17) ∧ w'.cell? ⟨gb610, 0, none⟩ = some (.bool t619) ∧ w'.cell? ⟨gb610, 1, none⟩ = some (.slice Ao22 t620.length co22) ∧ w'.cell? ⟨gb610, 2, none⟩ = some (.slice Ao23 t623.length co23)) (ds := []) #[false, false, false, false, false, false, false, false, false, false, false, false, false, false, false, false, false] (by kernel_rfl) rfl rfl ⟨(blk_cell BK609.out 0).trans rfl, (blk_cell BK609.out 1).trans rfl, (blk_cell BK609.out 2).trans rfl, (blk_cell BK610.out 0).trans rfl, (blk_cell BK610.out 1).trans rfl, (blk_cell BK610.out 2).trans rfl⟩ (fun hHeld => ?_); refine with_tabW codewrightref02_Mul.tab3 codewrightref02_Mul.bits3 (fun HT_ HW_ => ?_)
 generalize w24.drew = w25 at HO615 HO618 HO622 HO625 BK609 BK610 BK611 HB hHeld ⊢
 refine pure_ (i := 0) (N := some 9) (v := ?_) (a' := ?_) #[true, false, false, false, false, false, false, false, false, false, false, false, false, false, false, false, false] rfl rfl (any_of HT_.out (by kernel_rfl)) (fun _ _ _ h => h) (Or.inl ⟨by rfl, ?_⟩) ?_ ?_
 rotate_left
 ·
  intro w'
  go_simp
  with_reducible rfl
 rotate_left
 ·
  simp only [Act.put, List.setIfInBounds_toArray, List.set_cons_zero, List.set_cons_succ, i64_w, i32_w]
  rfl
 refine pure_ (i := 2) (N := some 11) (v := ?_) (a' := ?_) #[true, false, true, false, false, false, false, false, false, false, false, false, false, false, false, false, false] rfl rfl (any_of HT_.out (by kernel_rfl)) (fun _ _ _ h => h) (Or.inl ⟨by rfl, ?_⟩) ?_ ?_
 rotate_left
 ·
  intro w'
  go_simp
  with_reducible rfl
 rotate_left
 ·
  simp only [Act.put, List.setIfInBounds_toArray, List.set_cons_zero, List.set_cons_succ, i64_w, i32_w]
  rfl
 refine pure_ (i := 5) (N := some 14) (v := ?_) (a' := ?_) #[true, false, true, false, false, true, false, false, false, false, false, false, false, false, false, false, false] rfl rfl (any_of HT_.out (by kernel_rfl)) (fun _ _ _ h => h) (Or.inl ⟨by rfl, ?_⟩) ?_ ?_
 rotate_left
 ·
  intro w'
  go_simp
  with_reducible rfl
 rotate_left
 ·
  simp only [Act.put, List.setIfInBounds_toArray, List.set_cons_zero, List.set_cons_succ, i64_w, i32_w]
  rfl
 refine pure_ (i := 7) (N := some 16) (v := ?_) (a' := ?_) #[true, false, true, false, false, true, false, true, false, false, false, false, false, false, false, false, false] rfl rfl (any_of HT_.out (by kernel_rfl)) (fun _ _ _ h => h) (Or.inl ⟨by rfl, ?_⟩) ?_ ?_
 rotate_left
 ·
  intro w'
  go_simp
  with_reducible rfl
 rotate_left
 ·
  simp only [Act.put, List.setIfInBounds_toArray, List.set_cons_zero, List.set_cons_succ, i64_w, i32_w]
  rfl
 refine pure_ (i := 10) (N := some 19) (v := ?_) (a' := ?_) #[true, false, true, false, false, true, false, true, false, false, true, false, false, false, false, false, false] rfl rfl (any_of HT_.out (by kernel_rfl)) (fun _ _ _ h => h) (Or.inl ⟨by rfl, ?_⟩) ?_ ?_
 rotate_left
 ·
  intro w'
  go_simp
  with_reducible rfl
 rotate_left
 ·
  simp only [Act.put, List.setIfInBounds_toArray, List.set_cons_zero, List.set_cons_succ, i64_w, i32_w]
  rfl
 refine pure_ (i := 12) (N := some 21) (v := ?_) (a' := ?_) #[true, false, true, false, false, true, false, true, false, false, true, false, true, false, false, false, false] rfl rfl (any_of HT_.out (by kernel_rfl)) (fun _ _ _ h => h) (Or.inl ⟨by rfl, ?_⟩) ?_ ?_
 rotate_left
 ·
  intro w'
  go_simp
  with_reducible rfl
 rotate_left
 ·
  simp only [Act.put, List.setIfInBounds_toArray, List.set_cons_zero, List.set_cons_succ, i64_w, i32_w]
  rfl
 refine take_ (i := 1) (N := some 10) (v := ?_) (a' := ?_) #[true, true, true, false, false, true, false, true, false, false, true, false, true, false, false, false, false] rfl rfl (take_ofW HT_.out HW_.out (by kernel_rfl)) (fun _ _ _ h => h) (Or.inl ⟨by rfl, ?_⟩) hHeld ?_ ?_
 rotate_left
 ·
  rintro w' ⟨s0, s1, s2, s3, s4, s5⟩
  go_simp
  with_reducible rfl
 rotate_left
 ·
  simp only [Act.put, List.setIfInBounds_toArray, List.set_cons_zero, List.set_cons_succ, i64_w, i32_w]
  rfl
 refine take_ (i := 3) (N := some 12) (v := ?_) (a' := ?_) #[true, true, true, true, false, true, false, true, false, false, true, false, true, false, false, false, false] rfl rfl (take_ofW HT_.out HW_.out (by kernel_rfl)) (fun _ _ _ h => h) (Or.inl ⟨by rfl, ?_⟩) hHeld ?_ ?_
 rotate_left
 ·
  rintro w' ⟨s0, s1, s2, s3, s4, s5⟩
  go_simp
  with_reducible rfl
 rotate_left
 ·
  simp only [Act.put, List.setIfInBounds_toArray, List.set_cons_zero, List.set_cons_succ, i64_w, i32_w]
  rfl
 refine pure_ (i := 4) (N := some 13) (v := ?_) (a' := ?_) #[true, true, true, true, true, true, false, true, false, false, true, false, true, false, false, false, false] rfl rfl (any_of HT_.out (by kernel_rfl)) (fun _ _ _ h => h) (Or.inl ⟨by rfl, ?_⟩) ?_ ?_
 rotate_left
 ·
  intro w'
  go_simp
  with_reducible rfl
 rotate_left
 ·
  simp only [Act.put, List.setIfInBounds_toArray, List.set_cons_zero, List.set_cons_succ, i64_w, i32_w]
  rfl
 refine take_ (i := 6) (N := some 15) (v := ?_) (a' := ?_) #[true, true, true, true, true, true, true, true, false, false, true, false, true, false, false, false, false] rfl rfl (take_ofW HT_.out HW_.out (by kernel_rfl)) (fun _ _ _ h => h) (Or.inl ⟨by rfl, ?_⟩) hHeld ?_ ?_
 rotate_left
 ·
  rintro w' ⟨s0, s1, s2, s3, s4, s5⟩
  go_simp
  with_reducible rfl
 rotate_left
 ·
  simp only [Act.put, List.setIfInBounds_toArray, List.set_cons_zero, List.set_cons_succ, i64_w, i32_w]
  rfl
 refine take_ (i := 8) (N := some 17) (v := ?_) (a' := ?_) #[true, true, true, true, true, true, true, true, true, false, true, false, true, false, false, false, false] rfl rfl (take_ofW HT_.out HW_.out (by kernel_rfl)) (fun _ _ _ h => h) (Or.inl ⟨by rfl, ?_⟩) hHeld ?_ ?_
 rotate_left
 ·
  rintro w' ⟨s0, s1, s2, s3, s4, s5⟩
  go_simp
  with_reducible rfl
 rotate_left
 ·
  simp only [Act.put, List.setIfInBounds_toArray, List.set_cons_zero, List.set_cons_succ, i64_w, i32_w]
  rfl
 refine take_ (i := 11) (N := some 20) (v := ?_) (a' := ?_) #[true, true, true, true, true, true, true, true, true, false, true, true, true, false, false, false, false] rfl rfl (take_ofW HT_.out HW_.out (by kernel_rfl)) (fun _ _ _ h => h) (Or.inl ⟨by rfl, ?_⟩) hHeld ?_ ?_
 rotate_left
 ·
  rintro w' ⟨s0, s1, s2, s3, s4, s5⟩
  go_simp
  with_reducible rfl
 rotate_left
 ·
  simp only [Act.put, List.setIfInBounds_toArray, List.set_cons_zero, List.set_cons_succ, i64_w, i32_w]
  rfl
 refine take_ (i := 13) (N := some 22) (v := ?_) (a' := ?_) #[true, true, true, true, true, true, true, true, true, false, true, true, true, true, false, false, false] rfl rfl (take_ofW HT_.out HW_.out (by kernel_rfl)) (fun _ _ _ h => h) (Or.inl ⟨by rfl, ?_⟩) hHeld ?_ ?_
 rotate_left
 ·
  rintro w' ⟨s0, s1, s2, s3, s4, s5⟩
  go_simp
  with_reducible rfl
 rotate_left
 ·
  simp only [Act.put, List.setIfInBounds_toArray, List.set_cons_zero, List.set_cons_succ, i64_w, i32_w]
  rfl
 refine one_ (i := 9) (N := some 18) #[true, true, true, true, true, true, true, true, true, true, true, true, true, true, false, false, false] rfl rfl (one_of HT_.out (by kernel_rfl)) (by decide) (fun K hK => ?_)
 refine goes_ Try.func47 (by kernel_rfl) rfl #[.slice Ao16 t613.length co16, .slice Ao22 t620.length co22] (by rfl) rfl rfl (by (try simp only [List.map_toArray, List.map_cons, List.map_nil]); first | done | rfl | (simp only [List.length_drop, List.length_take]; rfl)) ?_
 with_reducible refine (codewrightref01_Mul.calls k _ _ t613 _ _ t620 t626 _ ?side1 ?side2 ?side3 ?side4 A5.out).mono ?_
 (case side1 => exact zC ((Kd.R_reads' HO615.out).2.2))
 (case side2 => exact (Kd.R_reads' HO615.out).2.1)
 (case side3 => exact zC ((Kd.R_reads' HO622.out).2.2))
 (case side4 => exact (Kd.R_reads' HO622.out).2.1)
 rintro e w26 ⟨v627, rfl, ho0, hb⟩
 refine ⟨_, rfl, ?_⟩
 have n0_ := zA (Kd.R_elder' (by exact zR HO615) (Kd.R_base ho0) hb)
 have n1_ := zA (Kd.R_elder' (by exact zR HO618) (Kd.R_base ho0) hb)
 have n2_ := zA (Kd.R_elder' (by exact zR HO622) (Kd.R_base ho0) hb)
 have n3_ := zA (Kd.R_elder' (by exact zR HO625) (Kd.R_base ho0) hb)
 have n4_ := zA (Kd.R_lower (Kd.R_new' (Kd.R_new' (Kd.R_new' (Kd.R_new' ho0 (Kd.R_lt (by exact zR HO615))) (Kd.R_lt (by exact zR HO618))) (Kd.R_lt (by exact zR HO622))) (Kd.R_lt (by exact zR HO625))) (below_size (by repeat (first | (with_reducible first | exact HB.out | apply below_alloc | apply pw_below_drewN | apply below_drew1 | refine below_set ?_ GE609.out | refine below_set ?_ GE610.out | refine below_set ?_ GE611.out) | exact HB.out))))
 have n5_ := zA (blk_below (g := gb609) (o := .cells #[.bool t612, .slice Ao16 t613.length co16, .slice Ao17 t616.length co17] 52 (0, 0)) (by exact zK BK609) hb)
 have n6_ := zA (blk_below (g := gb610) (o := .cells #[.bool t619, .slice Ao22 t620.length co22, .slice Ao23 t623.length co23] 52 (0, 0)) (by exact zK BK610) hb)
 have n7_ := zA (blk_below (g := gb611) (o := .cells #[.bool false, .slice none 0 0, .slice none 0 0] 52 (0, 0)) (by exact zK BK611) hb)
 have n8_ := zA (below_step (by repeat (first | (with_reducible first | exact HB.out | apply below_alloc | apply pw_below_drewN | apply below_drew1 | refine below_set ?_ GE609.out | refine below_set ?_ GE610.out | refine below_set ?_ GE611.out) | exact HB.out)) hb)
 clear HO615
 clear HO618
 clear HO622
 clear HO625
 clear BK609
 clear BK610
 clear BK611
 clear HB
 have HO615 := n0_
 have HO618 := n1_
 have HO622 := n2_
 have HO625 := n3_
 have HO628 := n4_
 have BK609 := n5_
 have BK610 := n6_
 have BK611 := n7_
 have HB := n8_
 clear n0_ n1_ n2_ n3_ n4_ n5_ n6_ n7_ n8_
 (try clear hb)
 (try clear hb2)
 (try clear hk)
 (try clear hi)
 (try clear ho0)
 refine hK.out _ _ ⟨(blk_cell BK609.out 0).trans rfl, (blk_cell BK609.out 1).trans rfl, (blk_cell BK609.out 2).trans rfl, (blk_cell BK610.out 0).trans rfl, (blk_cell BK610.out 1).trans rfl, (blk_cell BK610.out 2).trans rfl⟩ (fun hHeld => ?_)
 clear hK K
 refine norm_ (a' := ?_) ?_ ?_
 rotate_left
 ·
  show Act.put _ (some 18) _ = _
  simp only [Act.put, List.setIfInBounds_toArray, List.set_cons_zero, List.set_cons_succ, i64_w, i32_w]
  rfl
 refine one_ (i := 14) (N := some 23) #[true, true, true, true, true, true, true, true, true, true, true, true, true, true, true, false, false] rfl rfl (one_of HT_.out (by kernel_rfl)) (by decide) (fun K hK => ?_)
 refine goes_ Try.func47 (by kernel_rfl) rfl #[.slice Ao17 t616.length co17, .slice Ao23 t623.length co23] (by rfl) rfl rfl (by (try simp only [List.map_toArray, List.map_cons, List.map_nil]); first | done | rfl | (simp only [List.length_drop, List.length_take]; rfl)) ?_
 with_reducible refine (codewrightref01_Mul.calls k _ _ t616 _ _ t623 t629 _ ?side1 ?side2 ?side3 ?side4 A6.out).mono ?_
 (case side1 => exact zC ((Kd.R_reads' HO618.out).2.2))
 (case side2 => exact (Kd.R_reads' HO618.out).2.1)
 (case side3 => exact zC ((Kd.R_reads' HO625.out).2.2))
 (case side4 => exact (Kd.R_reads' HO625.out).2.1)
 rintro e w27 ⟨v630, rfl, ho0, hb⟩
 refine ⟨_, rfl, ?_⟩
 have n0_ := zA (Kd.R_elder' (by exact zR HO615) (Kd.R_base ho0) hb)
 have n1_ := zA (Kd.R_elder' (by exact zR HO618) (Kd.R_base ho0) hb)
 have n2_ := zA (Kd.R_elder' (by exact zR HO622) (Kd.R_base ho0) hb)
 have n3_ := zA (Kd.R_elder' (by exact zR HO625) (Kd.R_base ho0) hb)
 have n4_ := zA (Kd.R_elder' (by exact zR HO628) (Kd.R_base ho0) hb)
 have n5_ := zA (Kd.R_lower (Kd.R_new' (Kd.R_new' (Kd.R_new' (Kd.R_new' (Kd.R_new' ho0 (Kd.R_lt (by exact zR HO615))) (Kd.R_lt (by exact zR HO618))) (Kd.R_lt (by exact zR HO622))) (Kd.R_lt (by exact zR HO625))) (Kd.R_lt (by exact zR HO628))) (below_size (by repeat (first | (with_reducible first | exact HB.out | apply below_alloc | apply pw_below_drewN | apply below_drew1 | refine below_set ?_ GE609.out | refine below_set ?_ GE610.out | refine below_set ?_ GE611.out) | exact HB.out))))
 have n6_ := zA (blk_below (g := gb609) (o := .cells #[.bool t612, .slice Ao16 t613.length co16, .slice Ao17 t616.length co17] 52 (0, 0)) (by exact zK BK609) hb)
 have n7_ := zA (blk_below (g := gb610) (o := .cells #[.bool t619, .slice Ao22 t620.length co22, .slice Ao23 t623.length co23] 52 (0, 0)) (by exact zK BK610) hb)
 have n8_ := zA (blk_below (g := gb611) (o := .cells #[.bool false, .slice none 0 0, .slice none 0 0] 52 (0, 0)) (by exact zK BK611) hb)
 have n9_ := zA (below_step (by repeat (first | (with_reducible first | exact HB.out | apply below_alloc | apply pw_below_drewN | apply below_drew1 | refine below_set ?_ GE609.out | refine below_set ?_ GE610.out | refine below_set ?_ GE611.out) | exact HB.out)) hb)
 clear HO615
 clear HO618
 clear HO622
 clear HO625
 clear HO628
 clear BK609
 clear BK610
 clear BK611
 clear HB
 have HO615 := n0_
 have HO618 := n1_
 have HO622 := n2_
 have HO625 := n3_
 have HO628 := n4_
 have HO631 := n5_
 have BK609 := n6_
 have BK610 := n7_
 have BK611 := n8_
 have HB := n9_
 clear n0_ n1_ n2_ n3_ n4_ n5_ n6_ n7_ n8_ n9_
 (try clear hb)
 (try clear hb2)
 (try clear hk)
 (try clear hi)
 (try clear ho0)
 obtain ⟨Ao28, co28, eo28⟩ := Kd.R_slice HO628.out
 (first | subst eo28 | (injection eo28 with f1_ f2_ f3_; have f4_ := f1_.symm; have f5_ := f3_.symm; clear f1_ f2_ f3_; subst f4_; subst f5_))
 obtain ⟨Ao29, co29, eo29⟩ := Kd.R_slice HO631.out
 (first | subst eo29 | (injection eo29 with f1_ f2_ f3_; have f4_ := f1_.symm; have f5_ := f3_.symm; clear f1_ f2_ f3_; subst f4_; subst f5_))
 refine hK.out _ _ ⟨(blk_cell BK609.out 0).trans rfl, (blk_cell BK609.out 1).trans rfl, (blk_cell BK609.out 2).trans rfl, (blk_cell BK610.out 0).trans rfl, (blk_cell BK610.out 1).trans rfl, (blk_cell BK610.out 2).trans rfl⟩ (fun hHeld => ?_)
 clear hK K
 refine norm_ (a' := ?_) ?_ ?_
 rotate_left
 ·
  show Act.put _ (some 23) _ = _
  simp only [Act.put, List.setIfInBounds_toArray, List.set_cons_zero, List.set_cons_succ, i64_w, i32_w]
  rfl
 refine one_ (i := 15) (N := some 24) #[true, true, true, true, true, true, true, true, true, true, true, true, true, true, true, true, false] rfl rfl (one_of HT_.out (by kernel_rfl)) (by decide) (fun K hK => ?_)
 refine goes_ Try.func84 (by kernel_rfl) rfl #[.bool (t612 != t619), .slice Ao28 t626.length co28, .slice Ao29 t629.length co29] (by rfl) rfl rfl (by (try simp only [List.map_toArray, List.map_cons, List.map_nil]); first | done | rfl | (simp only [List.length_drop, List.length_take]; rfl)) ?_
 with_reducible refine (codewrightref02_Make.calls k (t612 != t619) _ _ t626 _ _ t629 t632 t633 t636 _ ?side1 ?side2 ?side3 ?side4 A7.out).mono ?_
 (case side1 => exact zC ((Kd.R_reads' HO628.out).2.2))
 (case side2 => exact (Kd.R_reads' HO628.out).2.1)
 (case side3 => exact zC ((Kd.R_reads' HO631.out).2.2))
 (case side4 => exact (Kd.R_reads' HO631.out).2.1)
 rintro e w30 ⟨v634, v637, rfl, ho0, ho1, hb⟩
 refine ⟨_, rfl, ?_⟩
 have n0_ := zA (Kd.R_mono (Kd.R_told (Kd.R_told (Kd.R_old (by exact zR HO615) hb) (Kd.R_base ho0)) (Kd.R_base ho1)) (fun _ h_ => h_.1))
 have n1_ := zA (Kd.R_mono (Kd.R_told (Kd.R_told (Kd.R_old (by exact zR HO618) hb) (Kd.R_base ho0)) (Kd.R_base ho1)) (fun _ h_ => h_.1))
 have n2_ := zA (Kd.R_mono (Kd.R_told (Kd.R_told (Kd.R_old (by exact zR HO622) hb) (Kd.R_base ho0)) (Kd.R_base ho1)) (fun _ h_ => h_.1))
 have n3_ := zA (Kd.R_mono (Kd.R_told (Kd.R_told (Kd.R_old (by exact zR HO625) hb) (Kd.R_base ho0)) (Kd.R_base ho1)) (fun _ h_ => h_.1))
 have n4_ := zA (Kd.R_mono (Kd.R_told (Kd.R_told (Kd.R_old (by exact zR HO628) hb) (Kd.R_base ho0)) (Kd.R_base ho1)) (fun _ h_ => h_.1))
 have n5_ := zA (Kd.R_mono (Kd.R_told (Kd.R_told (Kd.R_old (by exact zR HO631) hb) (Kd.R_base ho0)) (Kd.R_base ho1)) (fun _ h_ => h_.1))
 have n6_ := zA (Kd.R_lower (Kd.R_new' (Kd.R_new' (Kd.R_new' (Kd.R_new' (Kd.R_new' (Kd.R_new' ho0 (Kd.R_lt (by exact zR HO615))) (Kd.R_lt (by exact zR HO618))) (Kd.R_lt (by exact zR HO622))) (Kd.R_lt (by exact zR HO625))) (Kd.R_lt (by exact zR HO628))) (Kd.R_lt (by exact zR HO631))) (below_size (by repeat (first | (with_reducible first | exact HB.out | apply below_alloc | apply pw_below_drewN | apply below_drew1 | refine below_set ?_ GE609.out | refine below_set ?_ GE610.out | refine below_set ?_ GE611.out) | exact HB.out))))
 have n7_ := zA (Kd.R_lower (Kd.R_new' (Kd.R_new' (Kd.R_new' (Kd.R_new' (Kd.R_new' (Kd.R_new' ho1 (Kd.R_lt (by exact zR HO615))) (Kd.R_lt (by exact zR HO618))) (Kd.R_lt (by exact zR HO622))) (Kd.R_lt (by exact zR HO625))) (Kd.R_lt (by exact zR HO628))) (Kd.R_lt (by exact zR HO631))) (below_size (by repeat (first | (with_reducible first | exact HB.out | apply below_alloc | apply pw_below_drewN | apply below_drew1 | refine below_set ?_ GE609.out | refine below_set ?_ GE610.out | refine below_set ?_ GE611.out) | exact HB.out))))
 have n8_ := zA (blk_below (g := gb609) (o := .cells #[.bool t612, .slice Ao16 t613.length co16, .slice Ao17 t616.length co17] 52 (0, 0)) (by exact zK BK609) hb)
 have n9_ := zA (blk_below (g := gb610) (o := .cells #[.bool t619, .slice Ao22 t620.length co22, .slice Ao23 t623.length co23] 52 (0, 0)) (by exact zK BK610) hb)
 have n10_ := zA (blk_below (g := gb611) (o := .cells #[.bool false, .slice none 0 0, .slice none 0 0] 52 (0, 0)) (by exact zK BK611) hb)
 have n11_ := zA (below_step (by repeat (first | (with_reducible first | exact HB.out | apply below_alloc | apply pw_below_drewN | apply below_drew1 | refine below_set ?_ GE609.out | refine below_set ?_ GE610.out | refine below_set ?_ GE611.out) | exact HB.out)) hb)
 clear HO615
 clear HO618
 clear HO622
 clear HO625
 clear HO628
 clear HO631
 clear BK609
 clear BK610
 clear BK611
 clear HB
 have HO615 := n0_
 have HO618 := n1_
 have HO622 := n2_
 have HO625 := n3_
 have HO628 := n4_
 have HO631 := n5_
 have HO635 := n6_
 have HO638 := n7_
 have BK609 := n8_
 have BK610 := n9_
 have BK611 := n10_
 have HB := n11_
 clear n0_ n1_ n2_ n3_ n4_ n5_ n6_ n7_ n8_ n9_ n10_ n11_
 (try clear hb)
 (try clear hb2)
 (try clear hk)
 (try clear hi)
 (try clear ho0)
 (try clear ho1)
 obtain ⟨Ao32, co32, eo32⟩ := Kd.R_slice HO635.out
 (first | subst eo32 | (injection eo32 with f1_ f2_ f3_; have f4_ := f1_.symm; have f5_ := f3_.symm; clear f1_ f2_ f3_; subst f4_; subst f5_))
 obtain ⟨Ao34, co34, eo34⟩ := Kd.R_slice HO638.out
 (first | subst eo34 | (injection eo34 with f1_ f2_ f3_; have f4_ := f1_.symm; have f5_ := f3_.symm; clear f1_ f2_ f3_; subst f4_; subst f5_))
 refine hK.out _ _ ⟨(blk_cell BK609.out 0).trans rfl, (blk_cell BK609.out 1).trans rfl, (blk_cell BK609.out 2).trans rfl, (blk_cell BK610.out 0).trans rfl, (blk_cell BK610.out 1).trans rfl, (blk_cell BK610.out 2).trans rfl⟩ (fun hHeld => ?_)
 clear hK K
 refine norm_ (a' := ?_) ?_ ?_
 rotate_left
 ·
  show Act.put _ (some 24) _ = _
  simp only [Act.put, List.setIfInBounds_toArray, List.set_cons_zero, List.set_cons_succ, i64_w, i32_w]
  rfl
 refine one_ (i := 16) (N := none) #[true, true, true, true, true, true, true, true, true, true, true, true, true, true, true, true, true] rfl rfl (one_of HT_.out (by kernel_rfl)) (by decide) (fun K hK => ?_)
 have hs31 : w30.cell? ⟨gb611, 0, none⟩ = some (.bool false) := (blk_cell BK611.out 0).trans rfl
 have hfs31 := blk_frozen BK611.out 0
 have hns31_0 := NB609_611.out
 have hns31_1 := NB610_611.out
 have hms31_0 := NB611_609.out
 have hms31_1 := NB611_610.out
 have hs33 : w30.cell? ⟨gb611, 1, none⟩ = some (.slice none 0 0) := (blk_cell BK611.out 1).trans rfl
 have hfs33 := blk_frozen BK611.out 1
 have hns33_0 := NB609_611.out
 have hns33_1 := NB610_611.out
 have hms33_0 := NB611_609.out
 have hms33_1 := NB611_610.out
 have hs35 : w30.cell? ⟨gb611, 2, none⟩ = some (.slice none 0 0) := (blk_cell BK611.out 2).trans rfl
 have hfs35 := blk_frozen BK611.out 2
 have hns35_0 := NB609_611.out
 have hns35_1 := NB610_611.out
 have hms35_0 := NB611_609.out
 have hms35_1 := NB611_610.out
 refine skip_ (w1 := ?_) (by rfl) rfl ?_ ?_
 rotate_left
 ·
  go_simp
  rfl
 refine hK.out _ _ ⟨((cell_far (p := ⟨gb611, _, none⟩) NB609_611.out _).trans (((cell_far (p := ⟨gb611, _, none⟩) NB609_611.out _).trans (((cell_far (p := ⟨gb611, _, none⟩) NB609_611.out _).trans (hHeld.1)))))), ((cell_far (p := ⟨gb611, _, none⟩) NB609_611.out _).trans (((cell_far (p := ⟨gb611, _, none⟩) NB609_611.out _).trans (((cell_far (p := ⟨gb611, _, none⟩) NB609_611.out _).trans (hHeld.2.1)))))), ((cell_far (p := ⟨gb611, _, none⟩) NB609_611.out _).trans (((cell_far (p := ⟨gb611, _, none⟩) NB609_611.out _).trans (((cell_far (p := ⟨gb611, _, none⟩) NB609_611.out _).trans (hHeld.2.2.1)))))), ((cell_far (p := ⟨gb611, _, none⟩) NB610_611.out _).trans (((cell_far (p := ⟨gb611, _, none⟩) NB610_611.out _).trans (((cell_far (p := ⟨gb611, _, none⟩) NB610_611.out _).trans (hHeld.2.2.2.1)))))), ((cell_far (p := ⟨gb611, _, none⟩) NB610_611.out _).trans (((cell_far (p := ⟨gb611, _, none⟩) NB610_611.out _).trans (((cell_far (p := ⟨gb611, _, none⟩) NB610_611.out _).trans (hHeld.2.2.2.2.1)))))), ((cell_far (p := ⟨gb611, _, none⟩) NB610_611.out _).trans (((cell_far (p := ⟨gb611, _, none⟩) NB610_611.out _).trans (((cell_far (p := ⟨gb611, _, none⟩) NB610_611.out _).trans (hHeld.2.2.2.2.2))))))⟩ (fun hHeld => ?_)
 clear hK K
 refine done_ (done_of HT_.out (by kernel_rfl)) ?_
 try go_wp2
 refine bodyPost_ret (results_cell_row rfl _ _ gb611 52 #[.bool t632, .slice Ao32 t633.length co32, .slice Ao34 t636.length co34] (0, 0) _ rfl (by (with_reducible repeat (first | refine blk_drewN ?_ _ | refine blk_drew ?_ | refine blk_alloc ?_ _)); refine blk_put (cs := #[.bool t632, .slice Ao32 t633.length co32, .slice none 0 0]) ?_ 2 _ rfl; (with_reducible repeat (first | refine blk_drewN ?_ _ | refine blk_drew ?_ | refine blk_alloc ?_ _)); refine blk_put (cs := #[.bool t632, .slice none 0 0, .slice none 0 0]) ?_ 1 _ rfl; (with_reducible repeat (first | refine blk_drewN ?_ _ | refine blk_drew ?_ | refine blk_alloc ?_ _)); refine blk_put (cs := #[.bool false, .slice none 0 0, .slice none 0 0]) ?_ 0 _ rfl; exact zK BK611) Try.underlying52 rfl (by kernel_rfl)) rfl ?_
 exact ⟨_, _, by first | rfl | (simp [errW_none, errW_some] <;> rfl) | (simp [*, errW_none, errW_some] <;> rfl), by (with_reducible repeat (first | apply Kd.R_alloc | apply Kd.R_drewN | apply Kd.R_drew)); exact Kd.R_mono (Kd.R_far (p := ⟨gb611, 2, none⟩) (Kd.R_far (p := ⟨gb611, 1, none⟩) (Kd.R_far (p := ⟨gb611, 0, none⟩) (Kd.R_types HO635.out BK611.out (by decide)) (fun _ hk => hk.2) (.bool t632)) (fun _ hk => hk.2) (.slice Ao32 t633.length co32)) (fun _ hk => hk.2) (.slice Ao34 t636.length co34)) (fun _ hk => hk.1.1.1.1.1.1.1), by (with_reducible repeat (first | apply Kd.R_alloc | apply Kd.R_drewN | apply Kd.R_drew)); exact Kd.R_mono (Kd.R_far (p := ⟨gb611, 2, none⟩) (Kd.R_far (p := ⟨gb611, 1, none⟩) (Kd.R_far (p := ⟨gb611, 0, none⟩) (Kd.R_types HO638.out BK611.out (by decide)) (fun _ hk => hk.2) (.bool t632)) (fun _ hk => hk.2) (.slice Ao32 t633.length co32)) (fun _ hk => hk.2) (.slice Ao34 t636.length co34)) (fun _ hk => hk.1.1.1.1.1.1.1), by repeat (first | (with_reducible first | exact HB.out | apply below_alloc | apply pw_below_drewN | apply below_drew1 | refine below_set ?_ GE609.out | refine below_set ?_ GE610.out | refine below_set ?_ GE611.out) | exact HB.out)⟩
/-! ### codewrightref02_Sign: function 81 -/
def codewrightref02_Sign.f (k : Nat) (a0_0 : Bool) (l0_1 : List Int) (l0_2 : List Int) : Option (Int) := (codewrightref02_Trim.f k a0_0 l0_1 l0_2).bind fun bt640 => (if (bt640.2.1.length : Int) = 0 then (some 0) else (if bt640.1 = true then (some (-1)) else (some 1)))
set_option maxHeartbeats 8000000 in
set_option maxRecDepth 100000 in
theorem codewrightref02_Sign.calls (k : Nat) (a0_0 : Bool) (A0_1 : Option Addr) (c0_1 : Nat) (l0_1 : List Int) (A0_2 : Option Addr) (c0_2 : Nat) (l0_2 : List Int) (r : Int) (w : World) (hr0_1 : Kd.C (Kd.int .u32) w A0_1 l0_1.length l0_1) (hc0_1 : l0_1.length ≤ c0_1) (hr0_2 : Kd.C (Kd.int .u32) w A0_2 l0_2.length l0_2) (hc0_2 : l0_2.length ≤ c0_2) (h : codewrightref02_Sign.f k a0_0 l0_1 l0_2 = some r) :
  Calls Try.prog 81 #[.agg #[.bool a0_0, .slice A0_1 l0_1.length c0_1, .slice A0_2 l0_2.length c0_2]] w fun e w' => e = .returned (.int .i64 r) ∧ Below w.heap.size w w' := by
 have hu52 := Try.underlying52
 have HR0_1 := zA hr0_1
 have HC0_1 := zA hc0_1
 clear hr0_1 hc0_1
 have HR0_2 := zA hr0_2
 have HC0_2 := zA hc0_2
 clear hr0_2 hc0_2
 have HB := zA (Below.refl w.heap.size w)
 have H : ((codewrightref02_Trim.f k a0_0 l0_1 l0_2).bind fun bt640 => (if (bt640.2.1.length : Int) = 0 then (some 0) else (if bt640.1 = true then (some (-1)) else (some 1)))) = some r := h
 clear h
 replace H := Option.bind_eq_some_iff.mp H
 obtain ⟨⟨t640, t641, t644⟩, A20, H⟩ := H
 replace H : (if (t641.length : Int) = 0 then (some 0) else (if t640 = true then (some (-1)) else (some 1))) = some r := H
 have A2 := zA A20
 clear A20
 by_cases c3 : (t641.length : Int) = 0
 ·
  rw [if_pos c3] at H
  have c3b0 : ((t641.length : Int) == 0) = true := beq_iff_eq.mpr c3
  have c3b1 : ((t641.length : Int) != 0) = false := bne_eq_false_iff_eq.mpr c3
  clear c3
  obtain rfl := Option.some.inj H
  go_enter Try.func81, Try.ntmps81
  go_wp2_with (first | ((with_reducible refine gate_dst (N := 1) rfl ?_); refine box_event ?hg (N := 1) ?hd (cs := #[.bool a0_0, .slice A0_1 l0_1.length c0_1, .slice A0_2 l0_2.length c0_2]) (t := 52) ?hr ?_; (case hd => rfl); (case hg => rfl); (case hr => first | (go_simp; done) | (go_simp; rfl)); intro gb639 hg w4 hbox hb; have BK639 := zA (hbox); have GW639 := zA ((by rw [hg]; exact (below_size (by exact zB HB)) : w.heap.size ≤ gb639)); have GE639 := zA ((by rw [hg]; exact (below_size (by exact zB HB)) : w.heap.size ≤ gb639)); replace HB := zA (below_step (by exact zB HB) hb); clear hb hbox hg; have hcz5_0 : w4.cell? ⟨gb639, 0, none⟩ = some (.bool a0_0) := (blk_cell BK639.out 0).trans rfl; have hcz5_1 : w4.cell? ⟨gb639, 1, none⟩ = some (.slice A0_1 l0_1.length c0_1) := (blk_cell BK639.out 1).trans rfl; have hcz5_2 : w4.cell? ⟨gb639, 2, none⟩ = some (.slice A0_2 l0_2.length c0_2) := (blk_cell BK639.out 2).trans rfl; have hfz5_0 := blk_frozen BK639.out 0; have hfz5_1 := blk_frozen BK639.out 1; have hfz5_2 := blk_frozen BK639.out 2) | ((with_reducible refine gate_callee (f := 83) rfl ?_); refine goesL_ (some 4) rfl rfl Try.func83 (by kernel_rfl) rfl #[.agg #[.bool a0_0, .slice A0_1 l0_1.length c0_1, .slice A0_2 l0_2.length c0_2]] rfl (by (try simp only [List.map_toArray, List.map_cons, List.map_nil]); first | done | rfl | (simp only [List.length_drop, List.length_take]; rfl)) ?_; (with_reducible refine (codewrightref02_Trim.calls k a0_0 _ _ l0_1 _ _ l0_2 t640 t641 t644 _ ?side1 ?side2 ?side3 ?side4 A2.out).mono ?_); (case side1 => exact zC ((Kd.C_below HR0_1.out HB.out))); (case side2 => exact HC0_1.out); (case side3 => exact zC ((Kd.C_below HR0_2.out HB.out))); (case side4 => exact HC0_2.out); rintro e w6 ⟨v642, v645, rfl, ho0, ho1, hb⟩; refine ⟨_, rfl, ?_⟩; have HO643 := zA (Kd.R_lower ho0 (below_size (by repeat (first | (with_reducible first | exact HB.out | apply below_alloc | apply pw_below_drewN | apply below_drew1 | refine below_set ?_ GE639.out) | exact HB.out)))); have HO646 := zA (Kd.R_lower ho1 (below_size (by repeat (first | (with_reducible first | exact HB.out | apply below_alloc | apply pw_below_drewN | apply below_drew1 | refine below_set ?_ GE639.out) | exact HB.out)))); replace BK639 := zA (blk_below (g := gb639) (o := .cells #[.bool a0_0, .slice A0_1 l0_1.length c0_1, .slice A0_2 l0_2.length c0_2] 52 (0, 0)) (by exact zK BK639) hb); replace HB := zA (below_step (by repeat (first | (with_reducible first | exact HB.out | apply below_alloc | apply pw_below_drewN | apply below_drew1 | refine below_set ?_ GE639.out) | exact HB.out)) hb); (try clear hb ho0 ho1); have hcz7_0 : w6.cell? ⟨gb639, 0, none⟩ = some (.bool a0_0) := (blk_cell BK639.out 0).trans rfl; have hcz7_1 : w6.cell? ⟨gb639, 1, none⟩ = some (.slice A0_1 l0_1.length c0_1) := (blk_cell BK639.out 1).trans rfl; have hcz7_2 : w6.cell? ⟨gb639, 2, none⟩ = some (.slice A0_2 l0_2.length c0_2) := (blk_cell BK639.out 2).trans rfl; have hfz7_0 := blk_frozen BK639.out 0; have hfz7_1 := blk_frozen BK639.out 1; have hfz7_2 := blk_frozen BK639.out 2; obtain ⟨Ao8, co8, eo8⟩ := Kd.R_slice HO643.out; subst eo8; obtain ⟨Ao9, co9, eo9⟩ := Kd.R_slice HO646.out; subst eo9))
  go_ret
  exact ⟨by first | rfl | (simp [errW_none, errW_some] <;> rfl) | (simp [*, errW_none, errW_some] <;> rfl), by repeat (first | (with_reducible first | exact HB.out | apply below_alloc | apply pw_below_drewN | apply below_drew1 | refine below_set ?_ GE639.out) | exact HB.out)⟩
 ·
  rw [if_neg c3] at H
  have c3b0 : ((t641.length : Int) == 0) = false := beq_eq_false_iff_ne.mpr c3
  have c3b1 : ((t641.length : Int) != 0) = true := bne_iff_ne.mpr c3
  have c3b2 : ¬ (t641 = []) := fun h_ => c3 (by rw [h_]; rfl)
  by_cases c10 : t640 = true
  ·
   subst c10
   have H1 : (some (-1)) = some r := by rw [if_pos rfl] at H; exact H
   clear H
   have H := H1
   clear H1
   obtain rfl := Option.some.inj H
   go_enter Try.func81, Try.ntmps81
   go_wp2_with (first | ((with_reducible refine gate_dst (N := 1) rfl ?_); refine box_event ?hg (N := 1) ?hd (cs := #[.bool a0_0, .slice A0_1 l0_1.length c0_1, .slice A0_2 l0_2.length c0_2]) (t := 52) ?hr ?_; (case hd => rfl); (case hg => rfl); (case hr => first | (go_simp; done) | (go_simp; rfl)); intro gb639 hg w11 hbox hb; have BK639 := zA (hbox); have GW639 := zA ((by rw [hg]; exact (below_size (by exact zB HB)) : w.heap.size ≤ gb639)); have GE639 := zA ((by rw [hg]; exact (below_size (by exact zB HB)) : w.heap.size ≤ gb639)); replace HB := zA (below_step (by exact zB HB) hb); clear hb hbox hg; have hcz12_0 : w11.cell? ⟨gb639, 0, none⟩ = some (.bool a0_0) := (blk_cell BK639.out 0).trans rfl; have hcz12_1 : w11.cell? ⟨gb639, 1, none⟩ = some (.slice A0_1 l0_1.length c0_1) := (blk_cell BK639.out 1).trans rfl; have hcz12_2 : w11.cell? ⟨gb639, 2, none⟩ = some (.slice A0_2 l0_2.length c0_2) := (blk_cell BK639.out 2).trans rfl; have hfz12_0 := blk_frozen BK639.out 0; have hfz12_1 := blk_frozen BK639.out 1; have hfz12_2 := blk_frozen BK639.out 2) | ((with_reducible refine gate_callee (f := 83) rfl ?_); refine goesL_ (some 4) rfl rfl Try.func83 (by kernel_rfl) rfl #[.agg #[.bool a0_0, .slice A0_1 l0_1.length c0_1, .slice A0_2 l0_2.length c0_2]] rfl (by (try simp only [List.map_toArray, List.map_cons, List.map_nil]); first | done | rfl | (simp only [List.length_drop, List.length_take]; rfl)) ?_; (with_reducible refine (codewrightref02_Trim.calls k a0_0 _ _ l0_1 _ _ l0_2 true t641 t644 _ ?side1 ?side2 ?side3 ?side4 A2.out).mono ?_); (case side1 => exact zC ((Kd.C_below HR0_1.out HB.out))); (case side2 => exact HC0_1.out); (case side3 => exact zC ((Kd.C_below HR0_2.out HB.out))); (case side4 => exact HC0_2.out); rintro e w13 ⟨v642, v645, rfl, ho0, ho1, hb⟩; refine ⟨_, rfl, ?_⟩; have HO643 := zA (Kd.R_lower ho0 (below_size (by repeat (first | (with_reducible first | exact HB.out | apply below_alloc | apply pw_below_drewN | apply below_drew1 | refine below_set ?_ GE639.out) | exact HB.out)))); have HO646 := zA (Kd.R_lower ho1 (below_size (by repeat (first | (with_reducible first | exact HB.out | apply below_alloc | apply pw_below_drewN | apply below_drew1 | refine below_set ?_ GE639.out) | exact HB.out)))); replace BK639 := zA (blk_below (g := gb639) (o := .cells #[.bool a0_0, .slice A0_1 l0_1.length c0_1, .slice A0_2 l0_2.length c0_2] 52 (0, 0)) (by exact zK BK639) hb); replace HB := zA (below_step (by repeat (first | (with_reducible first | exact HB.out | apply below_alloc | apply pw_below_drewN | apply below_drew1 | refine below_set ?_ GE639.out) | exact HB.out)) hb); (try clear hb ho0 ho1); have hcz14_0 : w13.cell? ⟨gb639, 0, none⟩ = some (.bool a0_0) := (blk_cell BK639.out 0).trans rfl; have hcz14_1 : w13.cell? ⟨gb639, 1, none⟩ = some (.slice A0_1 l0_1.length c0_1) := (blk_cell BK639.out 1).trans rfl; have hcz14_2 : w13.cell? ⟨gb639, 2, none⟩ = some (.slice A0_2 l0_2.length c0_2) := (blk_cell BK639.out 2).trans rfl; have hfz14_0 := blk_frozen BK639.out 0; have hfz14_1 := blk_frozen BK639.out 1; have hfz14_2 := blk_frozen BK639.out 2; obtain ⟨Ao15, co15, eo15⟩ := Kd.R_slice HO643.out; subst eo15; obtain ⟨Ao16, co16, eo16⟩ := Kd.R_slice HO646.out; subst eo16))
   go_ret
   exact ⟨by first | rfl | (simp [errW_none, errW_some] <;> rfl) | (simp [*, errW_none, errW_some] <;> rfl), by repeat (first | (with_reducible first | exact HB.out | apply below_alloc | apply pw_below_drewN | apply below_drew1 | refine below_set ?_ GE639.out) | exact HB.out)⟩
  ·
   replace c10 := Bool.eq_false_iff.mpr c10
   subst c10
   have H1 : (some 1) = some r := by rw [if_neg (show ¬ (false = true) by decide)] at H; exact H
   clear H
   have H := H1
   clear H1
   obtain rfl := Option.some.inj H
   go_enter Try.func81, Try.ntmps81
   go_wp2_with (first | ((with_reducible refine gate_dst (N := 1) rfl ?_); refine box_event ?hg (N := 1) ?hd (cs := #[.bool a0_0, .slice A0_1 l0_1.length c0_1, .slice A0_2 l0_2.length c0_2]) (t := 52) ?hr ?_; (case hd => rfl); (case hg => rfl); (case hr => first | (go_simp; done) | (go_simp; rfl)); intro gb639 hg w17 hbox hb; have BK639 := zA (hbox); have GW639 := zA ((by rw [hg]; exact (below_size (by exact zB HB)) : w.heap.size ≤ gb639)); have GE639 := zA ((by rw [hg]; exact (below_size (by exact zB HB)) : w.heap.size ≤ gb639)); replace HB := zA (below_step (by exact zB HB) hb); clear hb hbox hg; have hcz18_0 : w17.cell? ⟨gb639, 0, none⟩ = some (.bool a0_0) := (blk_cell BK639.out 0).trans rfl; have hcz18_1 : w17.cell? ⟨gb639, 1, none⟩ = some (.slice A0_1 l0_1.length c0_1) := (blk_cell BK639.out 1).trans rfl; have hcz18_2 : w17.cell? ⟨gb639, 2, none⟩ = some (.slice A0_2 l0_2.length c0_2) := (blk_cell BK639.out 2).trans rfl; have hfz18_0 := blk_frozen BK639.out 0; have hfz18_1 := blk_frozen BK639.out 1; have hfz18_2 := blk_frozen BK639.out 2) | ((with_reducible refine gate_callee (f := 83) rfl ?_); refine goesL_ (some 4) rfl rfl Try.func83 (by kernel_rfl) rfl #[.agg #[.bool a0_0, .slice A0_1 l0_1.length c0_1, .slice A0_2 l0_2.length c0_2]] rfl (by (try simp only [List.map_toArray, List.map_cons, List.map_nil]); first | done | rfl | (simp only [List.length_drop, List.length_take]; rfl)) ?_; (with_reducible refine (codewrightref02_Trim.calls k a0_0 _ _ l0_1 _ _ l0_2 false t641 t644 _ ?side1 ?side2 ?side3 ?side4 A2.out).mono ?_); (case side1 => exact zC ((Kd.C_below HR0_1.out HB.out))); (case side2 => exact HC0_1.out); (case side3 => exact zC ((Kd.C_below HR0_2.out HB.out))); (case side4 => exact HC0_2.out); rintro e w19 ⟨v642, v645, rfl, ho0, ho1, hb⟩; refine ⟨_, rfl, ?_⟩; have HO643 := zA (Kd.R_lower ho0 (below_size (by repeat (first | (with_reducible first | exact HB.out | apply below_alloc | apply pw_below_drewN | apply below_drew1 | refine below_set ?_ GE639.out) | exact HB.out)))); have HO646 := zA (Kd.R_lower ho1 (below_size (by repeat (first | (with_reducible first | exact HB.out | apply below_alloc | apply pw_below_drewN | apply below_drew1 | refine below_set ?_ GE639.out) | exact HB.out)))); replace BK639 := zA (blk_below (g := gb639) (o := .cells #[.bool a0_0, .slice A0_1 l0_1.length c0_1, .slice A0_2 l0_2.length c0_2] 52 (0, 0)) (by exact zK BK639) hb); replace HB := zA (below_step (by repeat (first | (with_reducible first | exact HB.out | apply below_alloc | apply pw_below_drewN | apply below_drew1 | refine below_set ?_ GE639.out) | exact HB.out)) hb); (try clear hb ho0 ho1); have hcz20_0 : w19.cell? ⟨gb639, 0, none⟩ = some (.bool a0_0) := (blk_cell BK639.out 0).trans rfl; have hcz20_1 : w19.cell? ⟨gb639, 1, none⟩ = some (.slice A0_1 l0_1.length c0_1) := (blk_cell BK639.out 1).trans rfl; have hcz20_2 : w19.cell? ⟨gb639, 2, none⟩ = some (.slice A0_2 l0_2.length c0_2) := (blk_cell BK639.out 2).trans rfl; have hfz20_0 := blk_frozen BK639.out 0; have hfz20_1 := blk_frozen BK639.out 1; have hfz20_2 := blk_frozen BK639.out 2; obtain ⟨Ao21, co21, eo21⟩ := Kd.R_slice HO643.out; subst eo21; obtain ⟨Ao22, co22, eo22⟩ := Kd.R_slice HO646.out; subst eo22))
   go_ret
   exact ⟨by first | rfl | (simp [errW_none, errW_some] <;> rfl) | (simp [*, errW_none, errW_some] <;> rfl), by repeat (first | (with_reducible first | exact HB.out | apply below_alloc | apply pw_below_drewN | apply below_drew1 | refine below_set ?_ GE639.out) | exact HB.out)⟩
/-! ### codewrightref55_Canon: function 78 -/
mutual
def codewrightref55_Canon.l0 : Nat → List (S52) → Int → Int → Option ((List (S52)))
 | 0, _, _, _ => none
 | k + 1, x0, x3, x4 => if x4 < (x0.length : Int) then (if 0 ≤ x4 then ((codewrightref02_Sign.f k ((rd_T52 x0 x4).f0) ((rd_T52 x0 x4).f1) ((rd_T52 x0 x4).f2)).bind fun t648 => (if t648 = 0 then (codewrightref55_Canon.l0 k x0 x3 (wrap64 (x4 + 1))) else (codewrightref55_Canon.l0 k x0 (wrap64 (x4 + 1)) (wrap64 (x4 + 1))))) else (none)) else (if 0 ≤ x3 then (if (x3 : Int).toNat ≤ 5026338869833 then (codewrightref55_Canon.l1 k x0 x3 (List.replicate (x3 : Int).toNat z52) 0) else (none)) else (none))
def codewrightref55_Canon.l1 : Nat → List (S52) → Int → List (S52) → Int → Option ((List (S52)))
 | 0, _, _, _, _ => none
 | k + 1, x0, x3, x5, x6 => if x6 < x3 then (if 0 ≤ x6 then (if x6 < (x0.length : Int) then ((codewrightref02_Trim.f k ((rd_T52 x0 x6).f0) ((rd_T52 x0 x6).f1) ((rd_T52 x0 x6).f2)).bind fun bt653 => (if x6 < (x5.length : Int) then (codewrightref55_Canon.l1 k x0 x3 (x5.set (x6 : Int).toNat (⟨bt653.1, bt653.2.1, bt653.2.2⟩ : S52)) (wrap64 (x6 + 1))) else (none))) else (none)) else (none)) else (some x5)
end
def codewrightref55_Canon.f (k : Nat) (l0 : List (S52)) : Option ((List (S52))) := codewrightref55_Canon.l0 k l0 0 0
set_option maxHeartbeats 8000000 in
set_option maxRecDepth 100000 in
theorem codewrightref55_Canon.calls (k : Nat) (A0 : Option Addr) (c0 : Nat) (l0 : List (S52)) (r : List (S52)) (w : World) (hr0 : Kd.C k52 w A0 l0.length l0) (hc0 : l0.length ≤ c0) (h : codewrightref55_Canon.f k l0 = some r) :
  Calls Try.prog 78 #[.slice A0 l0.length c0] w fun e w' => ∃ v0_ : Value, e = .returned (v0_) ∧ Kd.S k52 52 w' w.heap.size (fun _ => True) v0_ r ∧ Below w.heap.size w w' := by
 have hu52 := Try.underlying52
 have HR0 := zA hr0
 have HC0 := zA hc0
 clear hr0 hc0
 have HB := zA (Below.refl w.heap.size w)
 have H : (codewrightref55_Canon.l0 k l0 0 0) = some r := h
 clear h
 have H' := zA H
 clear H
 go_enter Try.func78, Try.ntmps78
 go_wp2
 go_loopg [3, 4] k (fun kq v3 v4 w' => ∃ (x3_1 : Int) (x4_1 : Int), v3 = .int .i64 x3_1 ∧ v4 = .int .i64 x4_1 ∧ Aside0 (codewrightref55_Canon.l0 kq l0 x3_1 x4_1 = some r) ∧ Aside0 (kq ≤ k) ∧ Aside0 (Below w.heap.size w w'))
 case atStart => exact ⟨(0), (0), (by first | rfl | (simp; done) | (simp [*]; done)), (by first | rfl | (simp; done) | (simp [*]; done)), H', ⟨Nat.le_refl _⟩, ⟨by exact zB HB⟩⟩
 case round =>
  clear H'
  obtain ⟨x3_1, x4_1, rfl, rfl, HA, HK1, HB⟩ := hrel
  cases gk with
  | zero => exact absurd HA.out (by simp [codewrightref55_Canon.l0])
  | succ k1 =>
   have H := HA.out
   clear HA
   simp only [codewrightref55_Canon.l0] at H
   by_cases c2 : x4_1 < (l0.length : Int)
   ·
    rw [if_pos c2] at H
    have c2b0 : decide (x4_1 < (l0.length : Int)) = true := decide_eq_true c2
    clear c2
    by_cases c3 : 0 ≤ x4_1
    ·
     rw [if_pos c3] at H
     have c3b0 : decide (0 ≤ x4_1) = true := decide_eq_true c3
     clear c3
     replace H := Option.bind_eq_some_iff.mp H
     obtain ⟨t648, A40, H⟩ := H
     replace H : (if t648 = 0 then (codewrightref55_Canon.l0 k1 l0 x3_1 (wrap64 (x4_1 + 1))) else (codewrightref55_Canon.l0 k1 l0 (wrap64 (x4_1 + 1)) (wrap64 (x4_1 + 1)))) = some r := H
     have A4 := zA A40
     clear A40
     by_cases c5 : t648 = 0
     ·
      rw [if_pos c5] at H
      have c5b0 : (t648 == 0) = true := beq_iff_eq.mpr c5
      have c5b1 : (t648 != 0) = false := bne_eq_false_iff_eq.mpr c5
      clear c5
      have H' := zA H
      clear H
      have p647 : 0 ≤ (x4_1 : Int) := of_decide_eq_true (by assumption)
      have q647 : x4_1 < (l0.length : Int) := of_decide_eq_true (by assumption)
      obtain ⟨ad647, A647_1, c647_1, A647_2, c647_2, e647, hx647_0, hx647_1, hx647_2, hl647_1, hi647_1, hl647_2, hi647_2⟩ := at_T52 HR0.out x4_1 p647 q647
      cases e647
      replace hx647_0 := (HB.out.cell (World.block_lt_of_cell? w _ hx647_0)).trans hx647_0
      replace hx647_1 := (HB.out.cell (World.block_lt_of_cell? w _ hx647_1)).trans hx647_1
      replace hx647_2 := (HB.out.cell (World.block_lt_of_cell? w _ hx647_2)).trans hx647_2
      have HR647_1 := zA hi647_1
      have HC647_1 := zA hl647_1
      clear hi647_1 hl647_1
      have HR647_2 := zA hi647_2
      have HC647_2 := zA hl647_2
      clear hi647_2 hl647_2
      replace p647 := eq_true p647
      replace q647 := eq_true q647
      go_wp2_with (first | ((with_reducible refine gate_callee (f := 81) rfl ?_); refine goesL_ (some 17) rfl rfl Try.func81 (by kernel_rfl) rfl #[.agg #[.bool ((rd_T52 l0 x4_1).f0), .slice A647_1 ((rd_T52 l0 x4_1).f1).length c647_1, .slice A647_2 ((rd_T52 l0 x4_1).f2).length c647_2]] rfl (by (try simp only [List.map_toArray, List.map_cons, List.map_nil]); first | done | rfl | (simp only [List.length_drop, List.length_take]; rfl)) ?_; (with_reducible refine (codewrightref02_Sign.calls k1 ((rd_T52 l0 x4_1).f0) _ _ ((rd_T52 l0 x4_1).f1) _ _ ((rd_T52 l0 x4_1).f2) t648 _ ?side1 ?side2 ?side3 ?side4 A4.out).mono ?_); (case side1 => exact zC ((Kd.C_below HR647_1.out HB.out))); (case side2 => exact HC647_1.out); (case side3 => exact zC ((Kd.C_below HR647_2.out HB.out))); (case side4 => exact HC647_2.out); rintro e w6 ⟨rfl, hb⟩; refine ⟨_, rfl, ?_⟩; replace HB := zA (below_step (by exact zB HB) hb); (try clear hb)))
      go_roundg k1
      case measure => have := HK1.out; omega
      case rel => exact ⟨(x3_1), (wrap64 (x4_1 + 1)), (by first | rfl | (simp; done) | (simp [*]; done)), (by first | rfl | (simp; done) | (simp [*]; done)), H', ⟨by have := HK1.out; omega⟩, ⟨by exact zB HB⟩⟩
     ·
      rw [if_neg c5] at H
      have c5b0 : (t648 == 0) = false := beq_eq_false_iff_ne.mpr c5
      have c5b1 : (t648 != 0) = true := bne_iff_ne.mpr c5
      have H' := zA H
      clear H
      have p647 : 0 ≤ (x4_1 : Int) := of_decide_eq_true (by assumption)
      have q647 : x4_1 < (l0.length : Int) := of_decide_eq_true (by assumption)
      obtain ⟨ad647, A647_1, c647_1, A647_2, c647_2, e647, hx647_0, hx647_1, hx647_2, hl647_1, hi647_1, hl647_2, hi647_2⟩ := at_T52 HR0.out x4_1 p647 q647
      cases e647
      replace hx647_0 := (HB.out.cell (World.block_lt_of_cell? w _ hx647_0)).trans hx647_0
      replace hx647_1 := (HB.out.cell (World.block_lt_of_cell? w _ hx647_1)).trans hx647_1
      replace hx647_2 := (HB.out.cell (World.block_lt_of_cell? w _ hx647_2)).trans hx647_2
      have HR647_1 := zA hi647_1
      have HC647_1 := zA hl647_1
      clear hi647_1 hl647_1
      have HR647_2 := zA hi647_2
      have HC647_2 := zA hl647_2
      clear hi647_2 hl647_2
      replace p647 := eq_true p647
      replace q647 := eq_true q647
      go_wp2_with (first | ((with_reducible refine gate_callee (f := 81) rfl ?_); refine goesL_ (some 17) rfl rfl Try.func81 (by kernel_rfl) rfl #[.agg #[.bool ((rd_T52 l0 x4_1).f0), .slice A647_1 ((rd_T52 l0 x4_1).f1).length c647_1, .slice A647_2 ((rd_T52 l0 x4_1).f2).length c647_2]] rfl (by (try simp only [List.map_toArray, List.map_cons, List.map_nil]); first | done | rfl | (simp only [List.length_drop, List.length_take]; rfl)) ?_; (with_reducible refine (codewrightref02_Sign.calls k1 ((rd_T52 l0 x4_1).f0) _ _ ((rd_T52 l0 x4_1).f1) _ _ ((rd_T52 l0 x4_1).f2) t648 _ ?side1 ?side2 ?side3 ?side4 A4.out).mono ?_); (case side1 => exact zC ((Kd.C_below HR647_1.out HB.out))); (case side2 => exact HC647_1.out); (case side3 => exact zC ((Kd.C_below HR647_2.out HB.out))); (case side4 => exact HC647_2.out); rintro e w7 ⟨rfl, hb⟩; refine ⟨_, rfl, ?_⟩; replace HB := zA (below_step (by exact zB HB) hb); (try clear hb)))
      go_roundg k1
      case measure => have := HK1.out; omega
      case rel => exact ⟨(wrap64 (x4_1 + 1)), (wrap64 (x4_1 + 1)), (by first | rfl | (simp; done) | (simp [*]; done)), (by first | rfl | (simp; done) | (simp [*]; done)), H', ⟨by have := HK1.out; omega⟩, ⟨by exact zB HB⟩⟩
    ·
     rw [if_neg c3] at H
     exact absurd H (by simp)
   ·
    rw [if_neg c2] at H
    have c2b0 : decide (x4_1 < (l0.length : Int)) = false := decide_eq_false c2
    clear c2
    by_cases c8 : 0 ≤ x3_1
    ·
     rw [if_pos c8] at H
     have c8b0 := eq_true c8
     have c8b1 : decide (0 ≤ x3_1) = true := decide_eq_true c8
     clear c8
     by_cases c9 : (x3_1 : Int).toNat ≤ 5026338869833
     ·
      rw [if_pos c9] at H
      have c9b0 := eq_true c9
      have c9b1 : decide ((x3_1 : Int).toNat ≤ 5026338869833) = true := decide_eq_true c9
      clear c9
      obtain ⟨y649, hy649⟩ : ∃ y_ : List (S52), y_ = (List.replicate (x3_1 : Int).toNat z52) := ⟨_, rfl⟩
      replace H : (codewrightref55_Canon.l1 k1 l0 x3_1 y649 0) = some r := by first | (rw [hy649]; with_reducible exact H) | (have H := (Option.bind_some _ _).symm.trans H; first | (rw [hy649]; with_reducible exact H) | with_reducible exact H) | (rw [hy649]; exact H) | exact H
      have Ny649 := zA hy649
      clear hy649
      have H' := zA H
      clear H
      go_wp2_with (first | ((with_reducible refine gate_dst (N := 22) rfl ?_); refine Kd.S_make k52 _ 52 rfl (N := 22) rfl 40 _ _ rfl x3_1 rfl rfl Try.underlying40 (.agg #[(.bool false), (.slice none 0 0), (.slice none 0 0)]) 56 info52 rfl (by decide) (by omega) z52 (ok := fun _ => True) (okp := fun _ => True) (k52_mkM _ _ _ z52 (Kd.R_nil _ _ _ _ _) (Kd.R_nil _ _ _ _ _)) (fun _ hk => hk) trivial (of_decide_eq_true (by assumption)) (Nat.le_trans (Nat.mul_le_mul_right _ (of_decide_eq_true (by assumption) : x3_1.toNat ≤ 5026338869833)) (by omega)) (Below.refl _ _) (Nat.le_refl _) ?_; intro v650 w10 ho11 hb hg_ hnew_; clear hg_ hnew_; (first | rw [← Ny649.out] at ho11 | (simp only [Int.reduceToNat] at ho11; rw [← Ny649.out] at ho11)); have HO651 := zA (Kd.S_lower ho11 (below_size (by exact zB HB))); replace HB := zA (below_step (by exact zB HB) hb); clear hb ho11))
      go_loopg [6] k1 (fun kq v6 w' => ∃ (x5_2 : List (S52)) (x6_2 : Int), v6 = .int .i64 x6_2 ∧ Aside0 (codewrightref55_Canon.l1 kq l0 x3_1 x5_2 x6_2 = some r) ∧ Aside0 (kq ≤ k1) ∧ Aside0 (Kd.S k52 52 w' w.heap.size (fun _ => True) v650 x5_2) ∧ Aside0 (Below w.heap.size w w'))
      case atStart => exact ⟨(y649), (0), (by first | rfl | (simp; done) | (simp [*]; done)), H', ⟨Nat.le_refl _⟩, ⟨by (with_reducible repeat (first | apply Kd.S_alloc | apply Kd.S_drewN | apply Kd.S_drew)); exact HO651.out⟩, ⟨by exact zB HB⟩⟩
      case round =>
       clear H'
       try clear c2
       try clear c2b0
       try clear p2
       try clear c3
       try clear c3b0
       try clear c5
       try clear c5b0
       try clear c5b1
       try clear c6
       try clear p6
       try clear q6
       try clear hx6
       try clear c7
       try clear c8
       try clear c8b0
       try clear c8b1
       try clear c9
       try clear c9b0
       try clear c9b1
       try clear hx647_0
       try clear hx647_1
       try clear hx647_2
       try clear p647
       try clear q647
       obtain ⟨x5_2, x6_2, rfl, HA, HK2, HO_5, HB⟩ := hrel
       cases gk with
       | zero => exact absurd HA.out (by simp [codewrightref55_Canon.l1])
       | succ k2 =>
        have H := HA.out
        clear HA
        simp only [codewrightref55_Canon.l1] at H
        by_cases c12 : x6_2 < x3_1
        ·
         rw [if_pos c12] at H
         have c12b0 : decide (x6_2 < x3_1) = true := decide_eq_true c12
         clear c12
         by_cases c13 : 0 ≤ x6_2
         ·
          rw [if_pos c13] at H
          have c13b0 : decide (0 ≤ x6_2) = true := decide_eq_true c13
          clear c13
          by_cases c14 : x6_2 < (l0.length : Int)
          ·
           rw [if_pos c14] at H
           have c14b0 : decide (x6_2 < (l0.length : Int)) = true := decide_eq_true c14
           clear c14
           replace H := Option.bind_eq_some_iff.mp H
           obtain ⟨⟨t653, t654, t657⟩, A150, H⟩ := H
           replace H : (if x6_2 < (x5_2.length : Int) then (codewrightref55_Canon.l1 k2 l0 x3_1 (x5_2.set (x6_2 : Int).toNat (⟨t653, t654, t657⟩ : S52)) (wrap64 (x6_2 + 1))) else (none)) = some r := H
           have A15 := zA A150
           clear A150
           by_cases c16 : x6_2 < (x5_2.length : Int)
           ·
            rw [if_pos c16] at H
            have c16b0 : decide (x6_2 < (x5_2.length : Int)) = true := decide_eq_true c16
            clear c16
            obtain ⟨y660, hy660⟩ : ∃ y_ : List (S52), y_ = (x5_2.set (x6_2 : Int).toNat (⟨t653, t654, t657⟩ : S52)) := ⟨_, rfl⟩
            replace H : (codewrightref55_Canon.l1 k2 l0 x3_1 y660 (wrap64 (x6_2 + 1))) = some r := by first | (rw [hy660]; with_reducible exact H) | (have H := (Option.bind_some _ _).symm.trans H; first | (rw [hy660]; with_reducible exact H) | with_reducible exact H) | (rw [hy660]; exact H) | exact H
            have Ny660 := zA hy660
            clear hy660
            have H' := zA H
            clear H
            have p652 : 0 ≤ (x6_2 : Int) := of_decide_eq_true (by assumption)
            have q652 : x6_2 < (l0.length : Int) := of_decide_eq_true (by assumption)
            obtain ⟨ad652, A652_1, c652_1, A652_2, c652_2, e652, hx652_0, hx652_1, hx652_2, hl652_1, hi652_1, hl652_2, hi652_2⟩ := at_T52 HR0.out x6_2 p652 q652
            cases e652
            replace hx652_0 := (HB.out.cell (World.block_lt_of_cell? w _ hx652_0)).trans hx652_0
            replace hx652_1 := (HB.out.cell (World.block_lt_of_cell? w _ hx652_1)).trans hx652_1
            replace hx652_2 := (HB.out.cell (World.block_lt_of_cell? w _ hx652_2)).trans hx652_2
            have HR652_1 := zA hi652_1
            have HC652_1 := zA hl652_1
            clear hi652_1 hl652_1
            have HR652_2 := zA hi652_2
            have HC652_2 := zA hl652_2
            clear hi652_2 hl652_2
            replace p652 := eq_true p652
            replace q652 := eq_true q652
            go_wp2_with (first | ((with_reducible refine gate_callee (f := 83) rfl ?_); refine goesL_ (some 34) rfl rfl Try.func83 (by kernel_rfl) rfl #[.agg #[.bool ((rd_T52 l0 x6_2).f0), .slice A652_1 ((rd_T52 l0 x6_2).f1).length c652_1, .slice A652_2 ((rd_T52 l0 x6_2).f2).length c652_2]] rfl (by (try simp only [List.map_toArray, List.map_cons, List.map_nil]); first | done | rfl | (simp only [List.length_drop, List.length_take]; rfl)) ?_; (with_reducible refine (codewrightref02_Trim.calls k2 ((rd_T52 l0 x6_2).f0) _ _ ((rd_T52 l0 x6_2).f1) _ _ ((rd_T52 l0 x6_2).f2) t653 t654 t657 _ ?side1 ?side2 ?side3 ?side4 A15.out).mono ?_); (case side1 => exact zC ((Kd.C_below HR652_1.out HB.out))); (case side2 => exact HC652_1.out); (case side3 => exact zC ((Kd.C_below HR652_2.out HB.out))); (case side4 => exact HC652_2.out); rintro e w18 ⟨v655, v658, rfl, ho0, ho1, hb⟩; refine ⟨_, rfl, ?_⟩; replace HO_5 := zA (Kd.S_mono (Kd.S_told (Kd.S_told (Kd.S_old (by (with_reducible repeat (first | apply Kd.S_alloc | apply Kd.S_drewN | apply Kd.S_drew)); exact HO_5.out) hb) (Kd.R_base ho0)) (Kd.R_base ho1)) (fun _ h_ => h_.1)); have HO656 := zA (Kd.R_lower ho0 (below_size (by exact zB HB))); have HO659 := zA (Kd.R_lower ho1 (below_size (by exact zB HB))); replace HB := zA (below_step (by exact zB HB) hb); (try clear hb ho0 ho1); have p17 : 0 ≤ (x6_2 : Int) := of_decide_eq_true (by assumption); have q17 : (x6_2 : Int) < ((x5_2.length : Int) : Int) := of_decide_eq_true (by assumption); obtain ⟨go17, co17, eo17, gb17, gl17, cl17, HG17⟩ := Kd.S_form HO_5.out (by omega); (first | cases eo17 | (injection eo17 with ea_ en_ ec_; (first | subst ea_ | (injection ea_ with ea_; subst ea_)); subst ec_; clear en_)); have GB17 := zA gb17; have GG17 := zA HG17; clear gb17 gl17 HG17; obtain ⟨_, ce17, hcl17, hM17, hcc17, hfr17, _, _⟩ := Kd.S_elem HO_5.out z52 (x6_2 : Int) p17 q17; obtain ⟨ve17_1, ve17_2, rfl, ge17_1, ge17_2⟩ := k52_openM hM17; have hx17_0 : w18.cell? ⟨go17, (x6_2 : Int).toNat * 3, none⟩ = some (.bool ((rd_T52 x5_2 x6_2).f0)) := hcc17 0 _ rfl; have hx17_1 : w18.cell? ⟨go17, (x6_2 : Int).toNat * 3 + 1, none⟩ = some (ve17_1) := hcc17 1 _ rfl; have hx17_2 : w18.cell? ⟨go17, (x6_2 : Int).toNat * 3 + 2, none⟩ = some (ve17_2) := hcc17 2 _ rfl; have hf17_0 : w18.frozen? ⟨go17, (x6_2 : Int).toNat * 3, none⟩ = false := hfr17 0; have hf17_1 : w18.frozen? ⟨go17, (x6_2 : Int).toNat * 3 + 1, none⟩ = false := hfr17 1; have hf17_2 : w18.frozen? ⟨go17, (x6_2 : Int).toNat * 3 + 2, none⟩ = false := hfr17 2; clear hcl17 hcc17 hfr17 hM17; replace p17 := eq_true p17; replace q17 := eq_true q17; have n_ := zA (Kd.S_mono (ok' := (fun k_ => some k_ ≠ (v655 : Value).ownBlock ∧ some k_ ≠ (v658 : Value).ownBlock)) HO_5.out (fun k_ hk => ⟨hk.1.2, hk.2⟩)); clear HO_5; have HO_5 := n_; clear n_; obtain ⟨Ao21, co21, eo21⟩ := Kd.R_slice HO656.out; subst eo21; obtain ⟨Ao22, co22, eo22⟩ := Kd.R_slice HO659.out; subst eo22; have HX19 := zA (show Kd.S k52 52 w18 w.heap.size (fun k_ => ((fun _ => True)) k_ ∧ ¬ ((fun k_ => some k_ = (.slice Ao21 t654.length co21 : Value).ownBlock ∨ some k_ = (.slice Ao22 t657.length co22 : Value).ownBlock)) k_) (.slice (some ⟨go17, 0, none⟩) x5_2.length co17) x5_2 from (by (with_reducible repeat (first | apply Kd.S_alloc | apply Kd.S_drewN | apply Kd.S_drew)); exact Kd.S_mono HO_5.out (fun k_ hk => ⟨trivial, fun e_ => e_.elim (fun h_ => hk.1 h_) (fun h_ => hk.2 h_)⟩))); obtain ⟨oki19, ce19, hcl19, hM19, hcc19, hfr19, hoki19, hH19⟩ := Kd.S_elem HX19.out z52 (x6_2 : Int) (of_decide_eq_true (by assumption)) (by have h_ : (x6_2 : Int) < ((x5_2.length : Int) : Int) := of_decide_eq_true (by assumption); first | exact h_ | (have e_ := (Kd.S_reads' HO_5.out).1; omega) | simpa using h_); obtain ⟨ve19_1, ve19_2, rfl, ge19_1, ge19_2⟩ := k52_openM hM19; have HP19 := Kd.S_seg hH19 (of_decide_eq_true (by assumption)) (by have h_ : (x6_2 : Int) < ((x5_2.length : Int) : Int) := of_decide_eq_true (by assumption); first | exact h_ | (have e_ := (Kd.S_reads' HO_5.out).1; omega) | simpa using h_) (seg := [.bool t653, .slice Ao21 t654.length co21, .slice Ao22 t657.length co22]) (j := 0) (show 3 ≤ 3 from by decide) (x' := (⟨t653, t654, t657⟩ : S52)) (k52_mkM _ _ _ (⟨t653, t654, t657⟩ : S52) (Kd.R_mono (Kd.R_tight rfl (Kd.R_mono (ok' := fun k_ => ((fun _ => True)) k_ ∧ k_ ≠ go17) (Kd.R_apart' (HO656.out) (Kd.S_typed HO_5.out) (by decide)) (fun k_ hk => ⟨trivial, fun e_ => (hk.2) (by rw [e_]; rfl)⟩))) (fun _ h_ => Or.inr (Or.inl h_))) (Kd.R_mono (Kd.R_tight rfl (Kd.R_mono (ok' := fun k_ => ((fun _ => True)) k_ ∧ k_ ≠ go17) (Kd.R_apart' (HO659.out) (Kd.S_typed HO_5.out) (by decide)) (fun k_ hk => ⟨trivial, fun e_ => (hk.2) (by rw [e_]; rfl)⟩))) (fun _ h_ => Or.inr (Or.inr (h_))))) (fun _ hk => hk) (fun k_ hk_ => hk_.elim (fun h_ => ((Kd.R_mono (ok' := fun k_ => ((fun _ => True)) k_ ∧ k_ ≠ go17) (Kd.R_apart' (HO656.out) (Kd.S_typed HO_5.out) (by decide)) (fun k_ hk => ⟨trivial, fun e_ => (hk.2) (by rw [e_]; rfl)⟩))).1 k_ h_.symm) (fun h_ => ((Kd.R_mono (ok' := fun k_ => ((fun _ => True)) k_ ∧ k_ ≠ go17) (Kd.R_apart' (HO659.out) (Kd.S_typed HO_5.out) (by decide)) (fun k_ hk => ⟨trivial, fun e_ => (hk.2) (by rw [e_]; rfl)⟩))).1 k_ h_.symm)); have hx19_0 := hcc19 0 _ rfl; (try simp only [show (k52).sz = 3 from rfl, Nat.mul_one, Nat.add_zero] at hx19_0); have hf19_0 := hfr19 0; (try simp only [show (k52).sz = 3 from rfl, Nat.mul_one, Nat.add_zero] at hf19_0); have hx19_1 := hcc19 1 _ rfl; (try simp only [show (k52).sz = 3 from rfl, Nat.mul_one, Nat.add_zero] at hx19_1); have hf19_1 := hfr19 1; (try simp only [show (k52).sz = 3 from rfl, Nat.mul_one, Nat.add_zero] at hf19_1); have hx19_2 := hcc19 2 _ rfl; (try simp only [show (k52).sz = 3 from rfl, Nat.mul_one, Nat.add_zero] at hx19_2); have hf19_2 := hfr19 2; (try simp only [show (k52).sz = 3 from rfl, Nat.mul_one, Nat.add_zero] at hf19_2); clear hcl19 hcc19 hfr19 hM19 hoki19 hH19) | ((with_reducible refine gate_store (t := 52) (p := 35) rfl ?_); refine store_event (t := 52) (p := 35) (v := ?vo_w20) (w1 := (((w18.setCell ⟨go17, (x6_2 : Int).toNat * 3, none⟩ (.bool t653)).setCell ⟨go17, (x6_2 : Int).toNat * 3 + 1, none⟩ (.slice Ao21 t654.length co21)).setCell ⟨go17, (x6_2 : Int).toNat * 3 + 2, none⟩ (.slice Ao22 t657.length co22))) ?hg ?ho ?hn ?hr ?_; (case ho => rfl); (case hg => rfl); (case hn => rfl); (case hr => first | (go_simp; done) | (go_simp; rfl)); intro w20 hw; have hg : w18.grownBy w20 (some go17) := (by rw [hw]; exact HP19.2); have hp_ : Kd.S k52 52 w20 w.heap.size (fun _ => True) (.slice (some ⟨go17, 0, none⟩) x5_2.length co17) y660 := (by rw [hw, Ny660.out]; exact HP19.1); clear HP19; have n0_ := zA (hp_); have n1_ := zA ((by rw [hw]; exact below_set (below_set (below_set (HB.out) GB17.out) GB17.out) GB17.out : Below w.heap.size w w20)); clear HO_5; clear HB; clear HO656; clear HO659; have HO_5 := n0_; have HB := n1_; clear n0_ n1_; clear hg hw hp_))
            go_roundg k2
            case measure => have := HK1.out; have := HK2.out; omega
            case rel => exact ⟨(y660), (wrap64 (x6_2 + 1)), (by first | rfl | (simp; done) | (simp [*]; done)), H', ⟨by have := HK1.out; have := HK2.out; omega⟩, ⟨by (with_reducible repeat (first | apply Kd.S_alloc | apply Kd.S_drewN | apply Kd.S_drew)); exact HO_5.out⟩, ⟨by exact zB HB⟩⟩
           ·
            rw [if_neg c16] at H
            exact absurd H (by simp)
          ·
           rw [if_neg c14] at H
           exact absurd H (by simp)
         ·
          rw [if_neg c13] at H
          exact absurd H (by simp)
        ·
         rw [if_neg c12] at H
         have c12b0 : decide (x6_2 < x3_1) = false := decide_eq_false c12
         clear c12
         obtain rfl := Option.some.inj H
         go_wp2
         go_ret
         exact ⟨_, by first | rfl | (simp [errW_none, errW_some] <;> rfl) | (simp [*, errW_none, errW_some] <;> rfl), by (with_reducible repeat (first | apply Kd.S_alloc | apply Kd.S_drewN | apply Kd.S_drew)); exact HO_5.out, by exact zB HB⟩
     ·
      rw [if_neg c9] at H
      exact absurd H (by simp)
    ·
     rw [if_neg c8] at H
     exact absurd H (by simp)
end Go.Proofs.Ytjignpnnmfdedaa.PChannelPatterns
