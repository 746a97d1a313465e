/- A part of the print of this row, cut down to what the row uses. -/
import Derived.Test.YtpjpbhjpobdenaaQBoundsLinearx0
import Derived.Test.YtpjpbhjpobdenaaQBoundsLinearx4
import Derived.Test.YtpjpbhjpobdenaaQBoundsLinearWSq
-- printed by a scratch copy of the print, turned (wip/tools/turn_print.py)
namespace Go.Proofs.Ytpjpbhjpobdenaa.PBoundsLinear
open Go.RowKit Go.Proofs.YtpjpbhjpobdenaaW.PrintWords Go.Proofs.YtpjpbhjpobdenaaW.PrintLast Go.Proofs.YtpjpbhjpobdenaaW.PrintMore
attribute [local go_sem] max2_int min2_int max_two min_two max_three min_three max_four min_four   -- for this text's walks alone
set_option linter.unusedVariables false
set_option linter.unusedSimpArgs false
/-! ### codewrightref04_Add: function 44 -/
def codewrightref04_Add.l0 : Nat → List Int → List Int → Int → Int → Int → List Int → Option (Int)
 | 0, _, _, _, _, _, _ => none
 | k + 1, x7, x8, x9, x154000, x154001, x154002 => if x9 < (x7.length : Int) then (if 0 ≤ x9 then (if x9 < (x8.length : Int) then (if x154000 = 0 then (none) else (codewrightref04_Add.l0 k (x7.set (x9 : Int).toNat (Int.tmod (wrap64 ((rd x7 x9) + (rd x8 x9))) x154000)) x8 (wrap64 (x9 + 1)) x154000 x154001 x154002)) else (none)) else (none)) else ((codewrightref04_Value.f k x154000 x154001 x154002 x7).bind fun t163 => (some t163))
def codewrightref04_Add.f (k : Nat) (a0_0 : Int) (a0_1 : Int) (l0_2 : List Int) (a1 : Int) (a2 : Int) : Option (Int) := (codewrightref04_Digits.f k a0_0 a0_1 l0_2 a1).bind fun t154 => ((codewrightref04_Digits.f k a0_0 a0_1 l0_2 a2).bind fun t157 => (codewrightref04_Add.l0 k t154 t157 0 a0_0 a0_1 l0_2))
def codewrightref04_Add.T6 : Bool × List (List Nat × List Nat) := (true, [([], []), ([], []), ([], []), ([], []), ([2, 3], [2, 3]), ([4], [4]), ([], []), ([], []), ([6, 7], [6, 7]), ([8], [8]), ([5, 9], [5, 9]), ([], []), ([11], [11]), ([10, 12], [10, 12]), ([0, 1, 0, 1, 2, 3, 4, 5, 6, 7, 8, 9, 10, 11, 12, 13], [0, 1]), ([14, 13, 0, 1, 2, 3, 4, 5, 6, 7, 8, 9, 10, 11, 12, 13], [13, 14])])
def codewrightref04_Add.B6 : List Nat := [0, 0, 0, 0, 12, 28, 0, 0, 192, 448, 1020, 0, 2048, 8188, 16383, 32767]
theorem codewrightref04_Add.tab6 : rtab .any (opsOf Try.f44 6) = codewrightref04_Add.T6 := by kernel_rfl
theorem codewrightref04_Add.bits6 : waitsOk codewrightref04_Add.T6.2 codewrightref04_Add.B6 = true := by kernel_rfl
set_option maxHeartbeats 8000000 in
set_option maxRecDepth 100000 in
theorem codewrightref04_Add.calls (k : Nat) (a0_0 : Int) (a0_1 : Int) (A0_2 : Option Addr) (c0_2 : Nat) (l0_2 : List Int) (a1 : Int) (a2 : Int) (r : Int) (w : World) (hr0_2 : Kd.C (Kd.int .i64) w A0_2 l0_2.length l0_2) (hc0_2 : l0_2.length ≤ c0_2) (h : codewrightref04_Add.f k a0_0 a0_1 l0_2 a1 a2 = some r) :
  Calls Try.prog 44 #[.agg #[.int .i64 a0_0, .int .i64 a0_1, .slice A0_2 l0_2.length c0_2], .int .i64 a1, .int .i64 a2] w fun e w' => e = .returned (.int .i64 r) ∧ Below w.heap.size w w' := by
 have hu24 := Try.underlying24
 have HR0_2 := zA hr0_2
 have HC0_2 := zA hc0_2
 clear hr0_2 hc0_2
 have HB := zA (Below.refl w.heap.size w)
 have H : ((codewrightref04_Digits.f k a0_0 a0_1 l0_2 a1).bind fun t154 => ((codewrightref04_Digits.f k a0_0 a0_1 l0_2 a2).bind fun t157 => (codewrightref04_Add.l0 k t154 t157 0 a0_0 a0_1 l0_2))) = some r := h
 clear h
 replace H := Option.bind_eq_some_iff.mp H
 obtain ⟨t154, A40, H⟩ := H
 replace H : ((codewrightref04_Digits.f k a0_0 a0_1 l0_2 a2).bind fun t157 => (codewrightref04_Add.l0 k t154 t157 0 a0_0 a0_1 l0_2)) = some r := H
 have A4 := zA A40
 clear A40
 replace H := Option.bind_eq_some_iff.mp H
 obtain ⟨t157, A50, H⟩ := H
 replace H : (codewrightref04_Add.l0 k t154 t157 0 a0_0 a0_1 l0_2) = some r := H
 have A5 := zA A50
 clear A50
 have H' := zA H
 clear H
 go_enter Try.func44, Try.ntmps44
 go_wp2_with (first | ((with_reducible refine gate_dst (N := 3) rfl ?_); refine box_event ?hg (N := 3) ?hd (cs := #[.int .i64 a0_0, .int .i64 a0_1, .slice A0_2 l0_2.length c0_2]) (t := 24) ?hr ?_; (case hd => rfl); (case hg => rfl); (case hr => first | (go_simp; done) | (go_simp; rfl)); intro gb153 hg w6 hbox hb; have BK153 := zA (hbox); have GW153 := zA ((by rw [hg]; exact (below_size (by exact zB HB)) : w.heap.size ≤ gb153)); have GE153 := zA ((by rw [hg]; exact (below_size (by exact zB HB)) : w.heap.size ≤ gb153)); replace HB := zA (below_step (by exact zB HB) hb); clear hb hbox hg; have hcz7_0 : w6.cell? ⟨gb153, 0, none⟩ = some (.int .i64 a0_0) := (blk_cell BK153.out 0).trans rfl; have hcz7_1 : w6.cell? ⟨gb153, 1, none⟩ = some (.int .i64 a0_1) := (blk_cell BK153.out 1).trans rfl; have hcz7_2 : w6.cell? ⟨gb153, 2, none⟩ = some (.slice A0_2 l0_2.length c0_2) := (blk_cell BK153.out 2).trans rfl; have hfz7_0 := blk_frozen BK153.out 0; have hfz7_1 := blk_frozen BK153.out 1; have hfz7_2 := blk_frozen BK153.out 2) | ((with_reducible refine gate_callee (f := 74) rfl ?_); refine goesL_ (some 12) rfl rfl Try.func74 (by kernel_rfl) rfl #[.agg #[.int .i64 a0_0, .int .i64 a0_1, .slice A0_2 l0_2.length c0_2], .int .i64 a1] rfl (by (try simp only [List.map_toArray, List.map_cons, List.map_nil]); first | done | rfl | (simp only [List.length_drop, List.length_take]; rfl)) ?_; (with_reducible refine (codewrightref04_Digits.calls k a0_0 a0_1 _ _ l0_2 a1 t154 _ ?side1 ?side2 A4.out).mono ?_); (case side1 => exact zC ((Kd.C_below HR0_2.out HB.out))); (case side2 => exact HC0_2.out); rintro e w8 ⟨v155, rfl, ho0, hb⟩; refine ⟨_, rfl, ?_⟩; have HO156 := zA (Kd.R_lower ho0 (below_size (by repeat (first | (with_reducible first | exact HB.out | apply below_alloc | apply pw_below_drewN | apply below_drew1 | refine below_set ?_ GE153.out) | exact HB.out)))); replace BK153 := zA (blk_below (g := gb153) (o := .cells #[.int .i64 a0_0, .int .i64 a0_1, .slice A0_2 l0_2.length c0_2] 24 (0, 0)) (by exact zK BK153) hb); replace HB := zA (below_step (by repeat (first | (with_reducible first | exact HB.out | apply below_alloc | apply pw_below_drewN | apply below_drew1 | refine below_set ?_ GE153.out) | exact HB.out)) hb); (try clear hb ho0); have hcz9_0 : w8.cell? ⟨gb153, 0, none⟩ = some (.int .i64 a0_0) := (blk_cell BK153.out 0).trans rfl; have hcz9_1 : w8.cell? ⟨gb153, 1, none⟩ = some (.int .i64 a0_1) := (blk_cell BK153.out 1).trans rfl; have hcz9_2 : w8.cell? ⟨gb153, 2, none⟩ = some (.slice A0_2 l0_2.length c0_2) := (blk_cell BK153.out 2).trans rfl; have hfz9_0 := blk_frozen BK153.out 0; have hfz9_1 := blk_frozen BK153.out 1; have hfz9_2 := blk_frozen BK153.out 2) | ((with_reducible refine gate_callee (f := 74) rfl ?_); refine goesL_ (some 15) rfl rfl Try.func74 (by kernel_rfl) rfl #[.agg #[.int .i64 a0_0, .int .i64 a0_1, .slice A0_2 l0_2.length c0_2], .int .i64 a2] rfl (by (try simp only [List.map_toArray, List.map_cons, List.map_nil]); first | done | rfl | (simp only [List.length_drop, List.length_take]; rfl)) ?_; (with_reducible refine (codewrightref04_Digits.calls k a0_0 a0_1 _ _ l0_2 a2 t157 _ ?side1 ?side2 A5.out).mono ?_); (case side1 => exact zC ((Kd.C_below HR0_2.out HB.out))); (case side2 => exact HC0_2.out); rintro e w10 ⟨v158, rfl, ho0, hb⟩; refine ⟨_, rfl, ?_⟩; have HO159 := zA (Kd.R_lower (Kd.R_new' ho0 (Kd.R_lt (by exact zR HO156))) (below_size (by repeat (first | (with_reducible first | exact HB.out | apply below_alloc | apply pw_below_drewN | apply below_drew1 | refine below_set ?_ GE153.out) | exact HB.out)))); replace HO156 := zA (Kd.R_elder' (by exact zR HO156) (Kd.R_base ho0) hb); replace BK153 := zA (blk_below (g := gb153) (o := .cells #[.int .i64 a0_0, .int .i64 a0_1, .slice A0_2 l0_2.length c0_2] 24 (0, 0)) (by exact zK BK153) hb); replace HB := zA (below_step (by repeat (first | (with_reducible first | exact HB.out | apply below_alloc | apply pw_below_drewN | apply below_drew1 | refine below_set ?_ GE153.out) | exact HB.out)) hb); (try clear hb ho0)))
 go_loopg [9] k (fun kq v9 w' => ∃ (x7_1 : List Int) (x9_1 : Int), v9 = .int .i64 x9_1 ∧ Aside0 (codewrightref04_Add.l0 kq x7_1 t157 x9_1 a0_0 a0_1 l0_2 = some r) ∧ Aside0 (kq ≤ k) ∧ Aside0 (Kd.R (Kd.int .i64) 3 w' w.heap.size (fun k_ => some k_ ≠ (v158 : Value).ownBlock) v155 x7_1) ∧ Aside0 (Kd.R (Kd.int .i64) 3 w' w.heap.size (fun k_ => some k_ ≠ (v155 : Value).ownBlock) v158 t157) ∧ Aside0 (w'.heap[gb153]? = some (.cells #[.int .i64 a0_0, .int .i64 a0_1, (.slice A0_2 l0_2.length c0_2)] 24 (0, 0))) ∧ Aside0 (Below w.heap.size w w'))
 case atStart => exact ⟨(t154), (0), (by first | rfl | (simp; done) | (simp [*]; done)), H', ⟨Nat.le_refl _⟩, ⟨by (with_reducible repeat (first | apply Kd.R_alloc | apply Kd.R_drewN | apply Kd.R_drew)); exact Kd.R_mono HO156.out (fun _ hk => hk.2)⟩, ⟨by (with_reducible repeat (first | apply Kd.R_alloc | apply Kd.R_drewN | apply Kd.R_drew)); exact Kd.R_mono HO159.out (fun _ hk => hk.2)⟩, ⟨by exact zK BK153⟩, ⟨by repeat (first | (with_reducible first | exact HB.out | apply below_alloc | apply pw_below_drewN | apply below_drew1 | refine below_set ?_ GE153.out) | exact HB.out)⟩⟩
 case round =>
  clear H'
  try clear p2
  try clear c4
  try clear c7
  try clear hcz7_0
  try clear hcz7_1
  try clear hcz7_2
  try clear hcz9_0
  try clear hcz9_1
  try clear hcz9_2
  try clear hfz7_0
  try clear hfz7_1
  try clear hfz7_2
  try clear hfz9_0
  try clear hfz9_1
  try clear hfz9_2
  obtain ⟨x7_1, x9_1, rfl, HA, HK1, HO_7, HO_8, BK153, HB⟩ := hrel
  cases gk with
  | zero => exact absurd HA.out (by simp [codewrightref04_Add.l0])
  | succ k1 =>
   have H := HA.out
   clear HA
   simp only [codewrightref04_Add.l0] at H
   by_cases c11 : x9_1 < (x7_1.length : Int)
   ·
    rw [if_pos c11] at H
    have c11b0 : decide (x9_1 < (x7_1.length : Int)) = true := decide_eq_true c11
    clear c11
    by_cases c12 : 0 ≤ x9_1
    ·
     rw [if_pos c12] at H
     have c12b0 : decide (0 ≤ x9_1) = true := decide_eq_true c12
     clear c12
     by_cases c13 : x9_1 < (t157.length : Int)
     ·
      rw [if_pos c13] at H
      have c13b0 : decide (x9_1 < (t157.length : Int)) = true := decide_eq_true c13
      clear c13
      by_cases c14 : a0_0 = 0
      ·
       rw [if_pos c14] at H
       exact absurd H (by simp)
      ·
       rw [if_neg c14] at H
       have c14b0 : (a0_0 == 0) = false := beq_eq_false_iff_ne.mpr c14
       have c14b1 : (a0_0 != 0) = true := bne_iff_ne.mpr c14
       obtain ⟨y162, hy162⟩ : ∃ y_ : List Int, y_ = (x7_1.set (x9_1 : Int).toNat (Int.tmod (wrap64 ((rd x7_1 x9_1) + (rd t157 x9_1))) a0_0)) := ⟨_, rfl⟩
       replace H : (codewrightref04_Add.l0 k1 y162 t157 (wrap64 (x9_1 + 1)) a0_0 a0_1 l0_2) = some r := by first | (rw [hy162]; with_reducible exact H) | (have H := (Option.bind_some _ _).symm.trans H; first | (rw [hy162]; with_reducible exact H) | with_reducible exact H) | (rw [hy162]; exact H) | exact H
       have Ny162 := zA hy162
       clear hy162
       have H' := zA H
       clear H
       obtain ⟨Ao16, co16, eo16⟩ := Kd.R_slice HO_7.out
       subst eo16
       try go_wp2
       have n0_ := zA (Kd.R_drew HO_7.out)
       have n1_ := zA (Kd.R_drew HO_8.out)
       have n2_ := zA (blk_drew BK153.out)
       have n3_ := zA (below_drew1 HB.out)
       clear HO_7
       clear HO_8
       clear BK153
       clear HB
       have HO_7 := n0_
       have HO_8 := n1_
       have BK153 := n2_
       have HB := n3_
       clear n0_ n1_ n2_ n3_
       have p160 : 0 ≤ (x9_1 : Int) := of_decide_eq_true (by assumption)
       have q160 : x9_1 < (x7_1.length : Int) := of_decide_eq_true (by assumption)
       obtain ⟨ad160, e160, hx160_0⟩ := Kd.at_int (Kd.R_reads' HO_7.out).2.2 x9_1 p160 q160
       cases e160
       replace p160 := eq_true p160
       replace q160 := eq_true q160
       obtain ⟨Ao18, co18, eo18⟩ := Kd.R_slice HO_8.out
       (first | subst eo18 | (injection eo18 with f1_ f2_ f3_; have f4_ := f1_.symm; have f5_ := f3_.symm; clear f1_ f2_ f3_; subst f4_; subst f5_))
       have p161 : 0 ≤ (x9_1 : Int) := of_decide_eq_true (by assumption)
       have q161 : x9_1 < (t157.length : Int) := of_decide_eq_true (by assumption)
       obtain ⟨ad161, e161, hx161_0⟩ := Kd.at_int (Kd.R_reads' HO_8.out).2.2 x9_1 p161 q161
       cases e161
       replace p161 := eq_true p161
       replace q161 := eq_true q161
       have p15 : 0 ≤ (x9_1 : Int) := of_decide_eq_true (by assumption)
       have q15 : (x9_1 : Int) < ((x7_1.length : Int) : Int) := of_decide_eq_true (by assumption)
       obtain ⟨go15, co15, eo15, gb15, gl15, cl15, HG15⟩ := Kd.R_form HO_7.out (by omega)
       (first | cases eo15 | (injection eo15 with ea_ en_ ec_; (first | subst ea_ | (injection ea_ with ea_; subst ea_)); subst ec_; clear en_))
       have GB15 := zA gb15
       have GG15 := zA HG15
       clear gb15 gl15 HG15
       (first | simp only [add_plain] at hx160_0 | skip)
       obtain ⟨hx15_0, hf15_0⟩ := Kd.R_celln 0 HO_7.out (x9_1 : Int) p15 q15
       replace p15 := eq_true p15
       replace q15 := eq_true q15
       have HP19 := Kd.R_putn HO_7.out (x9_1 : Int) (Int.tmod (wrap64 ((rd x7_1 x9_1) + (rd t157 x9_1))) a0_0)
       rw [← Ny162.out] at HP19
       have HQ19 := zA HP19
       clear HP19
       refine start_ (n := 16) (S := fun w' => w'.cell? ⟨gb153, 0, none⟩ = some (.int .i64 a0_0) ∧ w'.cell? ⟨gb153, 1, none⟩ = some (.int .i64 a0_1) ∧ w'.cell? ⟨gb153, 2, none⟩ = some (.slice A0_2 l0_2.length c0_2) ∧ w'.cell? ⟨go15, (x9_1).toNat, none⟩ = some (.int .i64 (rd x7_1 x9_1)) ∧ w'.cell? (ad161.add (x9_1).toNat) = some (.int .i64 (rd t157 x9_1))) (ds := [15]) #[false, false, false, false, false, false, false, false, false, false, false, false, false, false, false, false] (by kernel_rfl) rfl rfl ⟨(blk_cell BK153.out 0).trans rfl, (blk_cell BK153.out 1).trans rfl, (blk_cell BK153.out 2).trans rfl, hx160_0, hx161_0⟩ (fun hHeld => ?_); refine with_tabW codewrightref04_Add.tab6 codewrightref04_Add.bits6 (fun HT_ HW_ => ?_)
       generalize wr.drew = w17 at HO_7 HO_8 BK153 HB GG15 HQ19 hf15_0 hx15_0 hx160_0 hx161_0 hHeld ⊢
       refine pure_ (i := 0) (N := some 22) (v := ?_) (a' := ?_) #[true, false, false, false, false, false, false, false, false, false, false, false, false, false, false, false] rfl rfl (any_of HT_.out (by kernel_rfl)) (fun _ _ _ h => h) (Or.inl ⟨by rfl, ?_⟩) ?_ ?_
       rotate_left
       ·
        intro w'
        go_simp
        with_reducible rfl
       rotate_left
       ·
        simp only [Act.put, List.setIfInBounds_toArray, List.set_cons_zero, List.set_cons_succ, i64_w, i32_w]
        rfl
       refine pure_ (i := 1) (N := some 23) (v := ?_) (a' := ?_) #[true, true, false, false, false, false, false, false, false, false, false, false, false, false, false, false] rfl rfl (any_of HT_.out (by kernel_rfl)) (fun _ _ _ h => h) (Or.inl ⟨by rfl, ?_⟩) ?_ ?_
       rotate_left
       ·
        intro w'
        go_simp
        with_reducible rfl
       rotate_left
       ·
        simp only [Act.put, List.setIfInBounds_toArray, List.set_cons_zero, List.set_cons_succ, i64_w, i32_w]
        rfl
       refine pure_ (i := 2) (N := some 24) (v := ?_) (a' := ?_) #[true, true, true, false, false, false, false, false, false, false, false, false, false, false, false, false] rfl rfl (any_of HT_.out (by kernel_rfl)) (fun _ _ _ h => h) (Or.inl ⟨by rfl, ?_⟩) ?_ ?_
       rotate_left
       ·
        intro w'
        go_simp
        with_reducible rfl
       rotate_left
       ·
        simp only [Act.put, List.setIfInBounds_toArray, List.set_cons_zero, List.set_cons_succ, i64_w, i32_w]
        rfl
       refine pure_ (i := 3) (N := some 25) (v := ?_) (a' := ?_) #[true, true, true, true, false, false, false, false, false, false, false, false, false, false, false, false] rfl rfl (any_of HT_.out (by kernel_rfl)) (fun _ _ _ h => h) (Or.inl ⟨by rfl, ?_⟩) ?_ ?_
       rotate_left
       ·
        intro w'
        go_simp
        with_reducible rfl
       rotate_left
       ·
        simp only [Act.put, List.setIfInBounds_toArray, List.set_cons_zero, List.set_cons_succ, i64_w, i32_w]
        rfl
       refine pure_ (i := 4) (N := some 26) (v := ?_) (a' := ?_) #[true, true, true, true, true, false, false, false, false, false, false, false, false, false, false, false] rfl rfl (any_of HT_.out (by kernel_rfl)) (fun _ _ _ h => h) (Or.inl ⟨by rfl, ?_⟩) ?_ ?_
       rotate_left
       ·
        intro w'
        go_simp
        with_reducible rfl
       rotate_left
       ·
        simp only [Act.put, List.setIfInBounds_toArray, List.set_cons_zero, List.set_cons_succ, i64_w, i32_w]
        rfl
       refine pure_ (i := 6) (N := some 28) (v := ?_) (a' := ?_) #[true, true, true, true, true, false, true, false, false, false, false, false, false, false, false, false] rfl rfl (any_of HT_.out (by kernel_rfl)) (fun _ _ _ h => h) (Or.inl ⟨by rfl, ?_⟩) ?_ ?_
       rotate_left
       ·
        intro w'
        go_simp
        with_reducible rfl
       rotate_left
       ·
        simp only [Act.put, List.setIfInBounds_toArray, List.set_cons_zero, List.set_cons_succ, i64_w, i32_w]
        rfl
       refine pure_ (i := 7) (N := some 29) (v := ?_) (a' := ?_) #[true, true, true, true, true, false, true, true, false, false, false, false, false, false, false, false] rfl rfl (any_of HT_.out (by kernel_rfl)) (fun _ _ _ h => h) (Or.inl ⟨by rfl, ?_⟩) ?_ ?_
       rotate_left
       ·
        intro w'
        go_simp
        with_reducible rfl
       rotate_left
       ·
        simp only [Act.put, List.setIfInBounds_toArray, List.set_cons_zero, List.set_cons_succ, i64_w, i32_w]
        rfl
       refine pure_ (i := 8) (N := some 30) (v := ?_) (a' := ?_) #[true, true, true, true, true, false, true, true, true, false, false, false, false, false, false, false] rfl rfl (any_of HT_.out (by kernel_rfl)) (fun _ _ _ h => h) (Or.inl ⟨by rfl, ?_⟩) ?_ ?_
       rotate_left
       ·
        intro w'
        go_simp
        with_reducible rfl
       rotate_left
       ·
        simp only [Act.put, List.setIfInBounds_toArray, List.set_cons_zero, List.set_cons_succ, i64_w, i32_w]
        rfl
       refine pure_ (i := 11) (N := some 33) (v := ?_) (a' := ?_) #[true, true, true, true, true, false, true, true, true, false, false, true, false, false, false, false] rfl rfl (any_of HT_.out (by kernel_rfl)) (fun _ _ _ h => h) (Or.inl ⟨by rfl, ?_⟩) ?_ ?_
       rotate_left
       ·
        intro w'
        go_simp
        with_reducible rfl
       rotate_left
       ·
        simp only [Act.put, List.setIfInBounds_toArray, List.set_cons_zero, List.set_cons_succ, i64_w, i32_w]
        rfl
       refine take_ (i := 5) (N := some 27) (v := ?_) (a' := ?_) #[true, true, true, true, true, true, true, true, true, false, false, true, false, false, false, false] rfl rfl (take_ofW HT_.out HW_.out (by kernel_rfl)) (fun _ _ _ h => h) (Or.inl ⟨by rfl, ?_⟩) hHeld ?_ ?_
       rotate_left
       ·
        rintro w' ⟨s0, s1, s2, s3, s4⟩
        go_simp
        with_reducible rfl
       rotate_left
       ·
        simp only [Act.put, List.setIfInBounds_toArray, List.set_cons_zero, List.set_cons_succ, i64_w, i32_w]
        rfl
       refine take_ (i := 9) (N := some 31) (v := ?_) (a' := ?_) #[true, true, true, true, true, true, true, true, true, true, false, true, false, false, false, false] rfl rfl (take_ofW HT_.out HW_.out (by kernel_rfl)) (fun _ _ _ h => h) (Or.inl ⟨by rfl, ?_⟩) hHeld ?_ ?_
       rotate_left
       ·
        rintro w' ⟨s0, s1, s2, s3, s4⟩
        go_simp
        with_reducible rfl
       rotate_left
       ·
        simp only [Act.put, List.setIfInBounds_toArray, List.set_cons_zero, List.set_cons_succ, i64_w, i32_w]
        rfl
       refine pure_ (i := 10) (N := some 32) (v := ?_) (a' := ?_) #[true, true, true, true, true, true, true, true, true, true, true, true, false, false, false, false] rfl rfl (any_of HT_.out (by kernel_rfl)) (fun _ _ _ h => h) (Or.inl ⟨by rfl, ?_⟩) ?_ ?_
       rotate_left
       ·
        intro w'
        go_simp
        with_reducible rfl
       rotate_left
       ·
        simp only [Act.put, List.setIfInBounds_toArray, List.set_cons_zero, List.set_cons_succ, i64_w, i32_w]
        rfl
       refine take_ (i := 12) (N := some 34) (v := ?_) (a' := ?_) #[true, true, true, true, true, true, true, true, true, true, true, true, true, false, false, false] rfl rfl (take_ofW HT_.out HW_.out (by kernel_rfl)) (fun _ _ _ h => h) (Or.inl ⟨by rfl, ?_⟩) hHeld ?_ ?_
       rotate_left
       ·
        rintro w' ⟨s0, s1, s2, s3, s4⟩
        go_simp
        with_reducible rfl
       rotate_left
       ·
        simp only [Act.put, List.setIfInBounds_toArray, List.set_cons_zero, List.set_cons_succ, i64_w, i32_w]
        rfl
       refine pure_ (i := 13) (N := some 35) (v := ?_) (a' := ?_) #[true, true, true, true, true, true, true, true, true, true, true, true, true, true, false, false] rfl rfl (any_of HT_.out (by kernel_rfl)) (fun _ _ _ h => h) (Or.inl ⟨by rfl, ?_⟩) ?_ ?_
       rotate_left
       ·
        intro w'
        go_simp
        with_reducible rfl
       rotate_left
       ·
        simp only [Act.put, List.setIfInBounds_toArray, List.set_cons_zero, List.set_cons_succ, i64_w, i32_w]
        rfl
       refine pure_ (i := 14) (N := some 36) (v := ?_) (a' := ?_) #[true, true, true, true, true, true, true, true, true, true, true, true, true, true, true, false] rfl rfl (any_of HT_.out (by kernel_rfl)) (fun _ _ _ h => h) (Or.inl ⟨by rfl, ?_⟩) ?_ ?_
       rotate_left
       ·
        intro w'
        go_simp
        with_reducible rfl
       rotate_left
       ·
        simp only [Act.put, List.setIfInBounds_toArray, List.set_cons_zero, List.set_cons_succ, i64_w, i32_w]
        rfl
       refine last_ (i := 15) (N := none) #[true, true, true, true, true, true, true, true, true, true, true, true, true, true, true, true] rfl rfl (one_of HT_.out (by kernel_rfl)) (by decide) (fun K hK => ?_)
       refine skip_ (w1 := ?_) (by rfl) rfl ?_ ?_
       rotate_left
       ·
        go_simp
        rfl
       refine hK.out _ _ ?_
       clear hK K
       refine done_ (done_of HT_.out (by kernel_rfl)) ?_
       try go_wp2
       go_roundg k1
       case measure => have := HK1.out; omega
       case rel => exact ⟨(y162), (wrap64 (x9_1 + 1)), (by first | rfl | (simp; done) | (simp [*]; done)), H', ⟨by have := HK1.out; omega⟩, ⟨by (with_reducible repeat (first | apply Kd.R_alloc | apply Kd.R_drewN | apply Kd.R_drew)); exact HQ19.out⟩, ⟨by (with_reducible repeat (first | apply Kd.R_alloc | apply Kd.R_drewN | apply Kd.R_drew)); exact Kd.R_mono (Kd.R_far (p := ⟨go15, (x9_1 : Int).toNat, none⟩) (Kd.R_mono HO_8.out (fun k_ hk => (⟨hk, fun e_ => hk (by rw [e_]; rfl)⟩ : _ ∧ k_ ≠ go15))) (fun _ hk => hk.2) (.int .i64 (Int.tmod (wrap64 ((rd x7_1 x9_1) + (rd t157 x9_1))) a0_0))) (fun _ hk => hk.1)⟩, ⟨by (with_reducible repeat (first | refine blk_drewN ?_ _ | refine blk_drew ?_ | refine blk_alloc ?_ _)); refine blk_far ?_ (by have h_ := Kd.R_ne HO_7.out BK153.out (by decide); intro e_; exact h_ (by rw [e_]; rfl)) _; exact zK BK153⟩, ⟨by repeat (first | (with_reducible first | exact HB.out | apply below_alloc | apply pw_below_drewN | apply below_drew1 | refine below_set ?_ GB15.out | refine below_set ?_ GE153.out) | exact HB.out)⟩⟩
     ·
      rw [if_neg c13] at H
      exact absurd H (by simp)
    ·
     rw [if_neg c12] at H
     exact absurd H (by simp)
   ·
    rw [if_neg c11] at H
    have c11b0 : decide (x9_1 < (x7_1.length : Int)) = false := decide_eq_false c11
    clear c11
    replace H := Option.bind_eq_some_iff.mp H
    obtain ⟨t163, A200, H⟩ := H
    replace H : (some t163) = some r := H
    have A20 := zA A200
    clear A200
    obtain rfl := Option.some.inj H
    obtain ⟨Ao21, co21, eo21⟩ := Kd.R_slice HO_7.out
    subst eo21
    have hcz22_0 : wr.cell? ⟨gb153, 0, none⟩ = some (.int .i64 a0_0) := (blk_cell BK153.out 0).trans rfl
    have hcz22_1 : wr.cell? ⟨gb153, 1, none⟩ = some (.int .i64 a0_1) := (blk_cell BK153.out 1).trans rfl
    have hcz22_2 : wr.cell? ⟨gb153, 2, none⟩ = some (.slice A0_2 l0_2.length c0_2) := (blk_cell BK153.out 2).trans rfl
    have hfz22_0 := blk_frozen BK153.out 0
    have hfz22_1 := blk_frozen BK153.out 1
    have hfz22_2 := blk_frozen BK153.out 2
    go_wp2_with (first | ((with_reducible refine gate_callee (f := 75) rfl ?_); refine goesL_ (some 39) rfl rfl Try.func75 (by kernel_rfl) rfl #[.agg #[.int .i64 a0_0, .int .i64 a0_1, .slice A0_2 l0_2.length c0_2], .slice Ao21 x7_1.length co21] rfl (by (try simp only [List.map_toArray, List.map_cons, List.map_nil]); first | done | rfl | (simp only [List.length_drop, List.length_take]; rfl)) ?_; (with_reducible refine (codewrightref04_Value.calls k1 a0_0 a0_1 _ _ l0_2 _ _ x7_1 t163 _ ?side1 ?side2 ?side3 ?side4 A20.out).mono ?_); (case side1 => exact zC ((Kd.C_below HR0_2.out HB.out))); (case side2 => exact HC0_2.out); (case side3 => exact zC ((Kd.R_reads' HO_7.out).2.2)); (case side4 => exact (Kd.R_reads' HO_7.out).2.1); rintro e w23 ⟨rfl, hb⟩; refine ⟨_, rfl, ?_⟩; replace HO_7 := zA (Kd.R_below (by exact zR HO_7) hb); replace HO_8 := zA (Kd.R_below (by exact zR HO_8) hb); replace BK153 := zA (blk_below (g := gb153) (o := .cells #[.int .i64 a0_0, .int .i64 a0_1, .slice A0_2 l0_2.length c0_2] 24 (0, 0)) (by exact zK BK153) hb); replace HB := zA (below_step (by repeat (first | (with_reducible first | exact HB.out | apply below_alloc | apply pw_below_drewN | apply below_drew1 | refine below_set ?_ GE153.out) | exact HB.out)) hb); (try clear hb)))
    go_ret
    exact ⟨by first | rfl | (simp [errW_none, errW_some] <;> rfl) | (simp [*, errW_none, errW_some] <;> rfl), by repeat (first | (with_reducible first | exact HB.out | apply below_alloc | apply pw_below_drewN | apply below_drew1 | refine below_set ?_ GE153.out) | exact HB.out)⟩
end Go.Proofs.Ytpjpbhjpobdenaa.PBoundsLinear
