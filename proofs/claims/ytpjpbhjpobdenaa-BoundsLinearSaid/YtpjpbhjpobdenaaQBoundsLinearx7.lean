/- A part of the print of this row, cut down to what the row uses. -/
import Derived.Test.YtpjpbhjpobdenaaQBoundsLinearx0
import Derived.Test.YtpjpbhjpobdenaaQBoundsLinearx1
import Derived.Test.YtpjpbhjpobdenaaQBoundsLinearx4
import Derived.Test.YtpjpbhjpobdenaaQBoundsLinearx5
import Derived.Test.YtpjpbhjpobdenaaQBoundsLinearx6
import Derived.Test.YtpjpbhjpobdenaaQBoundsLinearWSq
-- printed by a scratch copy of the print, turned (wip/tools/turn_print.py)
namespace Go.Proofs.Ytpjpbhjpobdenaa.PBoundsLinear
open Go.RowKit Go.Proofs.YtpjpbhjpobdenaaW.PrintWords Go.Proofs.YtpjpbhjpobdenaaW.PrintLast Go.Proofs.YtpjpbhjpobdenaaW.PrintMore
attribute [local go_sem] max2_int min2_int max_two min_two max_three min_three max_four min_four   -- for this text's walks alone
set_option linter.unusedVariables false
set_option linter.unusedSimpArgs false
/-! ### codewrightref24_Span: function 9 -/
mutual
def codewrightref24_Span.l0 : Nat → Int → List (List Int) → Int → List (List Int) → Int → Int → Int → List Int → Option ((List (List Int)))
 | 0, _, _, _, _, _, _, _, _ => none
 | k + 1, x1, x2, x3, x9, x10, x188000, x188001, x188002 => if x10 < (x2.length : Int) then (if 0 ≤ x10 then ((codewrightref24_Row.f k x188000 x188001 x188002 x1 (rd_L1 x2 x10)).bind fun t195 => ((codewrightref24_has.f k x9 t195).bind fun t198 => (if t198 = true then (codewrightref24_Span.l0 k x1 x2 x3 x9 (wrap64 (x10 + 1)) x188000 x188001 x188002) else ((codewrightref04_Order.f k x188000 x188001 x188002).bind fun t199 => (if t199 = 0 then (none) else (if (x9.length : Int) > (wrap64 (Int.tdiv x3 t199)) then (some ([] : List (List Int))) else (codewrightref24_Span.l1 k x1 x2 x3 x9 x10 t195 ([] : List (List Int)) 0 x188000 x188001 x188002))))))) else (none)) else (some x9)
def codewrightref24_Span.l1 : Nat → Int → List (List Int) → Int → List (List Int) → Int → List Int → List (List Int) → Int → Int → Int → List Int → Option ((List (List Int)))
 | 0, _, _, _, _, _, _, _, _, _, _, _ => none
 | k + 1, x1, x2, x3, x9, x10, x11, x12, x13, x188000, x188001, x188002 => (codewrightref04_Order.f k x188000 x188001 x188002).bind fun t200 => (if x13 < t200 then (codewrightref24_Span.l2 k x1 x2 x3 x9 x10 x11 x12 x13 0 x188000 x188001 x188002) else (codewrightref24_Span.l0 k x1 x2 x3 x12 (wrap64 (x10 + 1)) x188000 x188001 x188002))
def codewrightref24_Span.l2 : Nat → Int → List (List Int) → Int → List (List Int) → Int → List Int → List (List Int) → Int → Int → Int → Int → List Int → Option ((List (List Int)))
 | 0, _, _, _, _, _, _, _, _, _, _, _, _ => none
 | k + 1, x1, x2, x3, x9, x10, x11, x12, x13, x14, x188000, x188001, x188002 => if x14 < (x9.length : Int) then (if 0 ≤ x1 then (if (x1 : Int).toNat ≤ 35184372088832 then (codewrightref24_Span.l3 k x1 x2 x3 x9 x10 x11 x12 x13 x14 (List.replicate (x1 : Int).toNat 0) 0 x188000 x188001 x188002) else (none)) else (none)) else (codewrightref24_Span.l1 k x1 x2 x3 x9 x10 x11 x12 (wrap64 (x13 + 1)) x188000 x188001 x188002)
def codewrightref24_Span.l3 : Nat → Int → List (List Int) → Int → List (List Int) → Int → List Int → List (List Int) → Int → Int → List Int → Int → Int → Int → List Int → Option ((List (List Int)))
 | 0, _, _, _, _, _, _, _, _, _, _, _, _, _, _ => none
 | k + 1, x1, x2, x3, x9, x10, x11, x12, x13, x14, x15, x16, x188000, x188001, x188002 => if x16 < x1 then (if 0 ≤ x14 then (if x14 < (x9.length : Int) then (if 0 ≤ x16 then (if x16 < ((rd_L1 x9 x14).length : Int) then (if x16 < (x11.length : Int) then ((codewrightref04_Mul.f k x188000 x188001 x188002 x13 (rd x11 x16)).bind fun t207 => ((codewrightref04_Add.f k x188000 x188001 x188002 (rd (rd_L1 x9 x14) x16) t207).bind fun t208 => (if x16 < (x15.length : Int) then (codewrightref24_Span.l3 k x1 x2 x3 x9 x10 x11 x12 x13 x14 (x15.set (x16 : Int).toNat t208) (wrap64 (x16 + 1)) x188000 x188001 x188002) else (none)))) else (none)) else (none)) else (none)) else (none)) else (none)) else (if x12.length < 5864062014805 then (codewrightref24_Span.l2 k x1 x2 x3 x9 x10 x11 (x12 ++ [x15]) x13 (wrap64 (x14 + 1)) x188000 x188001 x188002) else (none))
end
def codewrightref24_Span.f (k : Nat) (a0_0 : Int) (a0_1 : Int) (l0_2 : List Int) (a1 : Int) (l2 : List (List Int)) (a3 : Int) : Option ((List (List Int))) := if 0 ≤ a1 then (if (a1 : Int).toNat ≤ 35184372088832 then (codewrightref24_Span.l0 k a1 l2 a3 (([(List.replicate (a1 : Int).toNat 0)] : List (List Int))) 0 a0_0 a0_1 l0_2) else (none)) else (none)
def codewrightref24_Span.T5 : Bool × List (List Nat × List Nat) := (true, [([], []), ([], []), ([], []), ([], []), ([2, 3], [2, 3]), ([4], [4]), ([0, 1, 5], [0, 1, 5]), ([6, 6, 0, 1, 2, 3, 4, 5, 6], [6])])
def codewrightref24_Span.B5 : List Nat := [0, 0, 0, 0, 12, 28, 63, 127]
theorem codewrightref24_Span.tab5 : rtab .any (opsOf Try.f9 5) = codewrightref24_Span.T5 := by kernel_rfl
theorem codewrightref24_Span.bits5 : waitsOk codewrightref24_Span.T5.2 codewrightref24_Span.B5 = true := by kernel_rfl
def codewrightref24_Span.T20 : Bool × List (List Nat × List Nat) := (true, [([], []), ([], []), ([], []), ([], []), ([], []), ([3, 4], [3, 4]), ([5], [5]), ([], []), ([6, 7], [6, 7]), ([8], [8]), ([], []), ([], []), ([], []), ([], []), ([12, 13], [12, 13]), ([14], [14]), ([10, 11, 15], [10, 11, 15]), ([2, 9, 16, 16], [2, 9, 16]), ([0, 1, 0, 1, 2, 3, 4, 5, 6, 7, 8, 9, 10, 11, 12, 13, 14, 15, 16, 17], [0, 1]), ([18, 17, 17, 0, 1, 2, 3, 4, 5, 6, 7, 8, 9, 10, 11, 12, 13, 14, 15, 16, 17], [17, 18])])
def codewrightref24_Span.B20 : List Nat := [0, 0, 0, 0, 0, 24, 56, 0, 248, 504, 0, 0, 0, 0, 12288, 28672, 64512, 131068, 262143, 524287]
theorem codewrightref24_Span.tab20 : rtab .any (opsOf Try.f9 20) = codewrightref24_Span.T20 := by kernel_rfl
theorem codewrightref24_Span.bits20 : waitsOk codewrightref24_Span.T20.2 codewrightref24_Span.B20 = true := by kernel_rfl
set_option maxHeartbeats 8000000 in
set_option maxRecDepth 100000 in
theorem codewrightref24_Span.calls (k : Nat) (a0_0 : Int) (a0_1 : Int) (A0_2 : Option Addr) (c0_2 : Nat) (l0_2 : List Int) (a1 : Int) (A2 : Option Addr) (c2 : Nat) (l2 : List (List Int)) (a3 : Int) (r : List (List Int)) (w : World) (hr0_2 : Kd.C (Kd.int .i64) w A0_2 l0_2.length l0_2) (hc0_2 : l0_2.length ≤ c0_2) (hr2 : Kd.C (Kd.slice 3 (Kd.int .i64)) w A2 l2.length l2) (hc2 : l2.length ≤ c2) (h : codewrightref24_Span.f k a0_0 a0_1 l0_2 a1 l2 a3 = some r) :
  Calls Try.prog 9 #[.agg #[.int .i64 a0_0, .int .i64 a0_1, .slice A0_2 l0_2.length c0_2], .int .i64 a1, .slice A2 l2.length c2, .int .i64 a3] w fun e w' => ∃ v0_ : Value, e = .returned (v0_) ∧ Kd.N (Kd.slice 3 (Kd.int .i64)) 22 w' w.heap.size (fun k_ => (w.heap.size ≤ k_)) v0_ r ∧ Below w.heap.size w w' := by
 have hu24 := Try.underlying24
 have HR0_2 := zA hr0_2
 have HC0_2 := zA hc0_2
 clear hr0_2 hc0_2
 have HR2 := zA hr2
 have HC2 := zA hc2
 clear hr2 hc2
 have HB := zA (Below.refl w.heap.size w)
 have H : (if 0 ≤ a1 then (if (a1 : Int).toNat ≤ 35184372088832 then (codewrightref24_Span.l0 k a1 l2 a3 (([(List.replicate (a1 : Int).toNat 0)] : List (List Int))) 0 a0_0 a0_1 l0_2) else (none)) else (none)) = some r := h
 clear h
 by_cases c5 : 0 ≤ a1
 ·
  rw [if_pos c5] at H
  have c5b0 := eq_true c5
  have c5b1 : decide (0 ≤ a1) = true := decide_eq_true c5
  clear c5
  by_cases c6 : (a1 : Int).toNat ≤ 35184372088832
  ·
   rw [if_pos c6] at H
   have c6b0 := eq_true c6
   have c6b1 : decide ((a1 : Int).toNat ≤ 35184372088832) = true := decide_eq_true c6
   clear c6
   obtain ⟨y188, hy188⟩ : ∃ y_ : List Int, y_ = (List.replicate (a1 : Int).toNat 0) := ⟨_, rfl⟩
   replace H : (codewrightref24_Span.l0 k a1 l2 a3 (([y188] : List (List Int))) 0 a0_0 a0_1 l0_2) = some r := by first | (rw [hy188]; with_reducible exact H) | (have H := (Option.bind_some _ _).symm.trans H; first | (rw [hy188]; with_reducible exact H) | with_reducible exact H) | (rw [hy188]; exact H) | exact H
   have Ny188 := zA hy188
   clear hy188
   obtain ⟨y191, hy191⟩ : ∃ y_ : List (List Int), y_ = (([y188] : List (List Int))) := ⟨_, rfl⟩
   replace H : (codewrightref24_Span.l0 k a1 l2 a3 y191 0 a0_0 a0_1 l0_2) = some r := by first | (rw [hy191]; with_reducible exact H) | (have H := (Option.bind_some _ _).symm.trans H; first | (rw [hy191]; with_reducible exact H) | with_reducible exact H) | (rw [hy191]; exact H) | exact H
   have Ny191 := zA hy191
   clear hy191
   have H' := zA H
   clear H
   go_enter Try.func9, Try.ntmps9
   go_wp2_with (first | ((with_reducible refine gate_dst (N := 4) rfl ?_); refine box_event ?hg (N := 4) ?hd (cs := #[.int .i64 a0_0, .int .i64 a0_1, .slice A0_2 l0_2.length c0_2]) (t := 24) ?hr ?_; (case hd => rfl); (case hg => rfl); (case hr => first | (go_simp; done) | (go_simp; rfl)); intro gb187 hg w7 hbox hb; have BK187 := zA (hbox); have GW187 := zA ((by rw [hg]; exact (below_size (by exact zB HB)) : w.heap.size ≤ gb187)); have GE187 := zA ((by rw [hg]; exact (below_size (by exact zB HB)) : w.heap.size ≤ gb187)); replace HB := zA (below_step (by exact zB HB) hb); clear hb hbox hg) | ((with_reducible refine gate_dst (N := 18) rfl ?_); refine Kd.R_make (Kd.int .i64) _ 3 rfl (N := 18) rfl 22 _ _ rfl a1 rfl rfl Try.underlying22 (.int .i64 0) 8 info3 rfl (by decide) (by omega) 0 (ok := fun _ => True) (okp := fun _ => True) rfl (fun _ hk => hk) trivial (of_decide_eq_true (by assumption)) (Nat.le_trans (Nat.mul_le_mul_right _ (of_decide_eq_true (by assumption) : a1.toNat ≤ 35184372088832)) (by omega)) (Below.refl _ _) (Nat.le_refl _) ?_; intro v189 w8 ho9 hb hg_ hnew_; clear hg_ hnew_; (first | rw [← Ny188.out] at ho9 | (simp only [Int.reduceToNat] at ho9; rw [← Ny188.out] at ho9)); have HO190 := zA (Kd.R_lower (Kd.R_newM (M := fun k_ => (w.heap.size ≤ k_)) ho9 (below_size (by repeat (first | (with_reducible first | exact HB.out | apply below_alloc | apply pw_below_drewN | apply below_drew1 | refine below_set ?_ GE187.out) | exact HB.out))) (fun k_ h_ => h_)) (below_size (by repeat (first | (with_reducible first | exact HB.out | apply below_alloc | apply pw_below_drewN | apply below_drew1 | refine below_set ?_ GE187.out) | exact HB.out)))); replace BK187 := zA (blk_below (g := gb187) (o := .cells #[.int .i64 a0_0, .int .i64 a0_1, .slice A0_2 l0_2.length c0_2] 24 (0, 0)) (by exact zK BK187) hb); replace HB := zA (below_step (by repeat (first | (with_reducible first | exact HB.out | apply below_alloc | apply pw_below_drewN | apply below_drew1 | refine below_set ?_ GE187.out) | exact HB.out)) hb); clear hb ho9; obtain ⟨Ao10, co10, eo10⟩ := Kd.R_slice HO190.out; subst eo10) | ((with_reducible refine gate_dst (N := 19) rfl ?_); refine Kd.N_lit (Kd.slice 3 (Kd.int .i64)) _ 22 ?hg (N' := 19) ?hd (xs := ([y188] : List (List Int))) (inner := [.slice Ao10 y188.length co10]) (ok := (fun k_ => (w.heap.size ≤ k_) ∧ k_ ≠ gb187)) (okp := (fun k_ => (w.heap.size ≤ k_) ∧ k_ ≠ gb187)) ?hr ?hp (fun _ hk => hk) ((show ∀ k_, w8.heap.size ≤ k_ → (fun k_ => (w.heap.size ≤ k_) ∧ k_ ≠ gb187) k_ from fun k_ hk => ⟨(Nat.le_trans (below_size (by repeat (first | (with_reducible first | exact HB.out | apply below_alloc | apply pw_below_drewN | apply below_drew1 | refine below_set ?_ GE187.out) | exact HB.out))) hk), Kd.freshB (g := gb187) (o := .cells #[.int .i64 a0_0, .int .i64 a0_1, .slice A0_2 l0_2.length c0_2] 24 (0, 0)) (by exact zK BK187) k_ hk⟩) _ (Nat.le_refl _)) (Below.refl _ _) (Nat.le_refl _) (by simp) ?_; (case hd => rfl); (case hg => rfl); (case hr => first | (go_simp; done) | (go_simp; rfl)); (case hp => exact (Reps.one (show Kd.FK (Kd.slice 3 (Kd.int .i64)) _ _ y188 [.slice Ao10 y188.length co10] from (Kd.FK_slice_mk (Kd.R_reads' (Kd.R_mono (ok' := (fun k_ => (w.heap.size ≤ k_) ∧ k_ ≠ gb187)) (Kd.R_types (HO190.out) BK187.out (by decide)) (fun k_ hk => ⟨hk.1.1, hk.2⟩))).2.1 (Kd.R_F (Kd.R_mono (ok' := (fun k_ => (w.heap.size ≤ k_) ∧ k_ ≠ gb187)) (Kd.R_types (HO190.out) BK187.out (by decide)) (fun k_ hk => ⟨hk.1.1, hk.2⟩))))) (Reps.none _ _))); intro v192 w11 ho12 hb hg_ hnew_; clear hg_ hnew_; (first | rw [← Ny191.out] at ho12 | (simp only [Int.reduceToNat] at ho12; rw [← Ny191.out] at ho12)); have n0_ := zA (Kd.N_lower ho12 (below_size (by repeat (first | (with_reducible first | exact HB.out | apply below_alloc | apply pw_below_drewN | apply below_drew1 | refine below_set ?_ GE187.out) | exact HB.out)))); have n1_ := zA (blk_below (g := gb187) (o := .cells #[.int .i64 a0_0, .int .i64 a0_1, .slice A0_2 l0_2.length c0_2] 24 (0, 0)) (by exact zK BK187) hb); have n2_ := zA (below_step (by repeat (first | (with_reducible first | exact HB.out | apply below_alloc | apply pw_below_drewN | apply below_drew1 | refine below_set ?_ GE187.out) | exact HB.out)) hb); clear BK187; clear HB; clear HO190; have HO193 := n0_; have BK187 := n1_; have HB := n2_; clear n0_ n1_ n2_; clear hb ho12))
   go_loopg [9, 10] k (fun kq v9 v10 w' => ∃ (x9_1 : List (List Int)) (x10_1 : Int), v10 = .int .i64 x10_1 ∧ Aside0 (codewrightref24_Span.l0 kq a1 l2 a3 x9_1 x10_1 a0_0 a0_1 l0_2 = some r) ∧ Aside0 (kq ≤ k) ∧ Aside0 (Kd.N (Kd.slice 3 (Kd.int .i64)) 22 w' w.heap.size (fun k_ => (w.heap.size ≤ k_) ∧ k_ ≠ gb187) v9 x9_1) ∧ Aside0 (w'.heap[gb187]? = some (.cells #[.int .i64 a0_0, .int .i64 a0_1, (.slice A0_2 l0_2.length c0_2)] 24 (0, 0))) ∧ Aside0 (Below w.heap.size w w'))
   case atStart => exact ⟨(y191), (0), (by first | rfl | (simp; done) | (simp [*]; done)), H', ⟨Nat.le_refl _⟩, ⟨by exact zN HO193⟩, ⟨by exact zK BK187⟩, ⟨by repeat (first | (with_reducible first | exact HB.out | apply below_alloc | apply pw_below_drewN | apply below_drew1 | refine below_set ?_ GE187.out) | exact HB.out)⟩⟩
   case round =>
    clear H'
    try clear c2
    try clear p2
    try clear c5
    try clear c5b0
    try clear c5b1
    try clear c6
    try clear c6b0
    try clear c6b1
    try clear c9
    obtain ⟨x9_1, x10_1, rfl, HA, HK1, HO_9, BK187, HB⟩ := hrel
    cases gk with
    | zero => exact absurd HA.out (by simp [codewrightref24_Span.l0])
    | succ k1 =>
     have H := HA.out
     clear HA
     simp only [codewrightref24_Span.l0] at H
     by_cases c13 : x10_1 < (l2.length : Int)
     ·
      rw [if_pos c13] at H
      have c13b0 : decide (x10_1 < (l2.length : Int)) = true := decide_eq_true c13
      clear c13
      by_cases c14 : 0 ≤ x10_1
      ·
       rw [if_pos c14] at H
       have c14b0 : decide (0 ≤ x10_1) = true := decide_eq_true c14
       clear c14
       replace H := Option.bind_eq_some_iff.mp H
       obtain ⟨t195, A150, H⟩ := H
       replace H : ((codewrightref24_has.f k1 x9_1 t195).bind fun t198 => (if t198 = true then (codewrightref24_Span.l0 k1 a1 l2 a3 x9_1 (wrap64 (x10_1 + 1)) a0_0 a0_1 l0_2) else ((codewrightref04_Order.f k1 a0_0 a0_1 l0_2).bind fun t199 => (if t199 = 0 then (none) else (if (x9_1.length : Int) > (wrap64 (Int.tdiv a3 t199)) then (some ([] : List (List Int))) else (codewrightref24_Span.l1 k1 a1 l2 a3 x9_1 x10_1 t195 ([] : List (List Int)) 0 a0_0 a0_1 l0_2)))))) = some r := H
       have A15 := zA A150
       clear A150
       replace H := Option.bind_eq_some_iff.mp H
       obtain ⟨t198, A160, H⟩ := H
       replace H : (if t198 = true then (codewrightref24_Span.l0 k1 a1 l2 a3 x9_1 (wrap64 (x10_1 + 1)) a0_0 a0_1 l0_2) else ((codewrightref04_Order.f k1 a0_0 a0_1 l0_2).bind fun t199 => (if t199 = 0 then (none) else (if (x9_1.length : Int) > (wrap64 (Int.tdiv a3 t199)) then (some ([] : List (List Int))) else (codewrightref24_Span.l1 k1 a1 l2 a3 x9_1 x10_1 t195 ([] : List (List Int)) 0 a0_0 a0_1 l0_2))))) = some r := H
       have A16 := zA A160
       clear A160
       by_cases c17 : t198 = true
       ·
        subst c17
        have H1 : (codewrightref24_Span.l0 k1 a1 l2 a3 x9_1 (wrap64 (x10_1 + 1)) a0_0 a0_1 l0_2) = some r := by rw [if_pos rfl] at H; exact H
        clear H
        have H := H1
        clear H1
        have H' := zA H
        clear H
        try go_wp2
        have n0_ := zA (Kd.N_drew HO_9.out)
        have n1_ := zA (blk_drew BK187.out)
        have n2_ := zA (below_drew1 HB.out)
        clear HO_9
        clear BK187
        clear HB
        have HO_9 := n0_
        have BK187 := n1_
        have HB := n2_
        clear n0_ n1_ n2_
        have p194 : 0 ≤ (x10_1 : Int) := of_decide_eq_true (by assumption)
        have q194 : x10_1 < (l2.length : Int) := of_decide_eq_true (by assumption)
        obtain ⟨ad194, A194_0, c194_0, e194, hx194_0, hl194_0, hi194_0⟩ := at_L1 HR2.out x10_1 p194 q194
        have hw194_0 := hx194_0
        cases e194
        replace hx194_0 := (HB.out.cell (World.block_lt_of_cell? w _ hx194_0)).trans hx194_0
        have HR194_0 := zA hi194_0
        have HC194_0 := zA hl194_0
        clear hi194_0 hl194_0
        replace p194 := eq_true p194
        replace q194 := eq_true q194
        refine start_ (n := 8) (S := fun w' => w'.cell? ⟨gb187, 0, none⟩ = some (.int .i64 a0_0) ∧ w'.cell? ⟨gb187, 1, none⟩ = some (.int .i64 a0_1) ∧ w'.cell? ⟨gb187, 2, none⟩ = some (.slice A0_2 l0_2.length c0_2) ∧ w'.cell? (ad194.add (x10_1).toNat) = some (.slice A194_0 (rd_L1 l2 x10_1).length c194_0)) (ds := []) #[false, false, false, false, false, false, false, false] (by kernel_rfl) rfl rfl ⟨(blk_cell BK187.out 0).trans rfl, (blk_cell BK187.out 1).trans rfl, (blk_cell BK187.out 2).trans rfl, ((HB.out.cell (World.block_lt_of_cell? w _ hw194_0)).trans hw194_0)⟩ (fun hHeld => ?_); refine with_tabW codewrightref24_Span.tab5 codewrightref24_Span.bits5 (fun HT_ HW_ => ?_)
        generalize wr.drew = w18 at HO_9 BK187 HB HR194_0 hx194_0 hHeld ⊢
        refine pure_ (i := 1) (N := some 27) (v := ?_) (a' := ?_) #[false, true, false, false, false, false, false, false] rfl rfl (any_of HT_.out (by kernel_rfl)) (fun _ _ _ h => h) (Or.inl ⟨by rfl, ?_⟩) ?_ ?_
        rotate_left
        ·
         intro w'
         go_simp
         with_reducible rfl
        rotate_left
        ·
         simp only [Act.put, List.setIfInBounds_toArray, List.set_cons_zero, List.set_cons_succ, i64_w, i32_w]
         rfl
        refine pure_ (i := 2) (N := some 28) (v := ?_) (a' := ?_) #[false, true, true, false, false, false, false, false] rfl rfl (any_of HT_.out (by kernel_rfl)) (fun _ _ _ h => h) (Or.inl ⟨by rfl, ?_⟩) ?_ ?_
        rotate_left
        ·
         intro w'
         go_simp
         with_reducible rfl
        rotate_left
        ·
         simp only [Act.put, List.setIfInBounds_toArray, List.set_cons_zero, List.set_cons_succ, i64_w, i32_w]
         rfl
        refine pure_ (i := 3) (N := some 29) (v := ?_) (a' := ?_) #[false, true, true, true, false, false, false, false] rfl rfl (any_of HT_.out (by kernel_rfl)) (fun _ _ _ h => h) (Or.inl ⟨by rfl, ?_⟩) ?_ ?_
        rotate_left
        ·
         intro w'
         go_simp
         with_reducible rfl
        rotate_left
        ·
         simp only [Act.put, List.setIfInBounds_toArray, List.set_cons_zero, List.set_cons_succ, i64_w, i32_w]
         rfl
        refine pure_ (i := 4) (N := some 30) (v := ?_) (a' := ?_) #[false, true, true, true, true, false, false, false] rfl rfl (any_of HT_.out (by kernel_rfl)) (fun _ _ _ h => h) (Or.inl ⟨by rfl, ?_⟩) ?_ ?_
        rotate_left
        ·
         intro w'
         go_simp
         with_reducible rfl
        rotate_left
        ·
         simp only [Act.put, List.setIfInBounds_toArray, List.set_cons_zero, List.set_cons_succ, i64_w, i32_w]
         rfl
        refine take_ (i := 0) (N := some 26) (v := ?_) (a' := ?_) #[true, true, true, true, true, false, false, false] rfl rfl (take_ofW HT_.out HW_.out (by kernel_rfl)) (fun _ _ _ h => h) (Or.inl ⟨by rfl, ?_⟩) hHeld ?_ ?_
        rotate_left
        ·
         rintro w' ⟨s0, s1, s2, s3⟩
         go_simp
         with_reducible rfl
        rotate_left
        ·
         simp only [Act.put, List.setIfInBounds_toArray, List.set_cons_zero, List.set_cons_succ, i64_w, i32_w]
         rfl
        refine take_ (i := 5) (N := some 31) (v := ?_) (a' := ?_) #[true, true, true, true, true, true, false, false] rfl rfl (take_ofW HT_.out HW_.out (by kernel_rfl)) (fun _ _ _ h => h) (Or.inl ⟨by rfl, ?_⟩) hHeld ?_ ?_
        rotate_left
        ·
         rintro w' ⟨s0, s1, s2, s3⟩
         go_simp
         with_reducible rfl
        rotate_left
        ·
         simp only [Act.put, List.setIfInBounds_toArray, List.set_cons_zero, List.set_cons_succ, i64_w, i32_w]
         rfl
        refine one_ (i := 6) (N := some 32) #[true, true, true, true, true, true, true, false] rfl rfl (one_of HT_.out (by kernel_rfl)) (by decide) (fun K hK => ?_)
        refine goes_ Try.func42 (by kernel_rfl) rfl #[.agg #[.int .i64 a0_0, .int .i64 a0_1, .slice A0_2 l0_2.length c0_2], .int .i64 a1, .slice A194_0 (rd_L1 l2 x10_1).length c194_0] (by rfl) rfl rfl (by (try simp only [List.map_toArray, List.map_cons, List.map_nil]); first | done | rfl | (simp only [List.length_drop, List.length_take]; rfl)) ?_
        with_reducible refine (codewrightref24_Row.calls k1 a0_0 a0_1 _ _ l0_2 a1 _ _ (rd_L1 l2 x10_1) t195 _ ?side1 ?side2 ?side3 ?side4 A15.out).mono ?_
        (case side1 => exact zC ((Kd.C_below HR0_2.out HB.out)))
        (case side2 => exact HC0_2.out)
        (case side3 => exact zC ((Kd.C_below HR194_0.out HB.out)))
        (case side4 => exact HC194_0.out)
        rintro e w19 ⟨v196, rfl, ho0, hb⟩
        refine ⟨_, rfl, ?_⟩
        have n0_ := zA (Kd.N_elder' (by exact zN HO_9) (Kd.R_base ho0) hb)
        have n1_ := zA (Kd.R_lower (Kd.R_newM (M := fun k_ => (w.heap.size ≤ k_)) ho0 (below_size (by repeat (first | (with_reducible first | exact HB.out | apply below_alloc | apply pw_below_drewN | apply below_drew1 | refine below_set ?_ GE187.out) | exact HB.out))) (fun k_ h_ => h_)) (below_size (by repeat (first | (with_reducible first | exact HB.out | apply below_alloc | apply pw_below_drewN | apply below_drew1 | refine below_set ?_ GE187.out) | exact HB.out))))
        have n2_ := zA (blk_below (g := gb187) (o := .cells #[.int .i64 a0_0, .int .i64 a0_1, .slice A0_2 l0_2.length c0_2] 24 (0, 0)) (by exact zK BK187) hb)
        have n3_ := zA (below_step (by repeat (first | (with_reducible first | exact HB.out | apply below_alloc | apply pw_below_drewN | apply below_drew1 | refine below_set ?_ GE187.out) | exact HB.out)) hb)
        clear HO_9
        clear BK187
        clear HB
        have HO_9 := n0_
        have HO197 := n1_
        have BK187 := n2_
        have HB := n3_
        clear n0_ n1_ n2_ n3_
        (try clear hb)
        (try clear hb2)
        (try clear hk)
        (try clear hi)
        (try clear ho0)
        refine hK.out _ _ ⟨(blk_cell BK187.out 0).trans rfl, (blk_cell BK187.out 1).trans rfl, (blk_cell BK187.out 2).trans rfl, ((HB.out.cell (World.block_lt_of_cell? w _ hw194_0)).trans hw194_0)⟩ (fun hHeld => ?_)
        clear hK K
        refine norm_ (a' := ?_) ?_ ?_
        rotate_left
        ·
         show Act.put _ (some 32) _ = _
         simp only [Act.put, List.setIfInBounds_toArray, List.set_cons_zero, List.set_cons_succ, i64_w, i32_w]
         rfl
        refine pure_ (i := 7) (N := some 11) (v := ?_) (a' := ?_) #[true, true, true, true, true, true, true, true] rfl rfl (any_of HT_.out (by kernel_rfl)) (fun _ _ _ h => h) (Or.inl ⟨by rfl, ?_⟩) ?_ ?_
        rotate_left
        ·
         intro w'
         go_simp
         with_reducible rfl
        rotate_left
        ·
         simp only [Act.put, List.setIfInBounds_toArray, List.set_cons_zero, List.set_cons_succ, i64_w, i32_w]
         rfl
        refine done_ (done_of HT_.out (by kernel_rfl)) ?_
        obtain ⟨Ao20, co20, eo20⟩ := Kd.N_slice HO_9.out
        subst eo20
        obtain ⟨Ao21, co21, eo21⟩ := Kd.R_slice HO197.out
        subst eo21
        try go_wp2_with (first | ((with_reducible refine gate_callee (f := 43) rfl ?_); refine goesL_ (some 35) rfl rfl Try.func43 (by kernel_rfl) rfl #[.slice Ao20 x9_1.length co20, .slice Ao21 t195.length co21] rfl (by (try simp only [List.map_toArray, List.map_cons, List.map_nil]); first | done | rfl | (simp only [List.length_drop, List.length_take]; rfl)) ?_; (with_reducible refine (codewrightref24_has.calls k1 _ _ x9_1 _ _ t195 true _ ?side1 ?side2 ?side3 ?side4 A16.out).mono ?_); (case side1 => exact zC ((Kd.N_reads' HO_9.out).2.2)); (case side2 => exact (Kd.N_reads' HO_9.out).2.1); (case side3 => exact zC ((Kd.R_reads' HO197.out).2.2)); (case side4 => exact (Kd.R_reads' HO197.out).2.1); rintro e w' ⟨rfl, ⟨nd, rfl⟩⟩; refine ⟨_, rfl, ?_⟩))
        go_roundg k1
        case measure => have := HK1.out; omega
        case rel => exact ⟨(x9_1), (wrap64 (x10_1 + 1)), (by first | rfl | (simp; done) | (simp [*]; done)), H', ⟨by have := HK1.out; omega⟩, ⟨by (with_reducible repeat (first | apply Kd.N_alloc | apply Kd.N_drewN | apply Kd.N_drew)); exact Kd.N_mono HO_9.out (fun _ hk => ⟨hk.1.1, hk.1.2⟩)⟩, ⟨by exact zK BK187⟩, ⟨by repeat (first | (with_reducible first | exact HB.out | apply below_alloc | apply pw_below_drewN | apply below_drew1 | refine below_set ?_ GE187.out) | exact HB.out)⟩⟩
       ·
        replace c17 := Bool.eq_false_iff.mpr c17
        subst c17
        have H1 : ((codewrightref04_Order.f k1 a0_0 a0_1 l0_2).bind fun t199 => (if t199 = 0 then (none) else (if (x9_1.length : Int) > (wrap64 (Int.tdiv a3 t199)) then (some ([] : List (List Int))) else (codewrightref24_Span.l1 k1 a1 l2 a3 x9_1 x10_1 t195 ([] : List (List Int)) 0 a0_0 a0_1 l0_2)))) = some r := by rw [if_neg (show ¬ (false = true) by decide)] at H; exact H
        clear H
        have H := H1
        clear H1
        replace H := Option.bind_eq_some_iff.mp H
        obtain ⟨t199, A220, H⟩ := H
        replace H : (if t199 = 0 then (none) else (if (x9_1.length : Int) > (wrap64 (Int.tdiv a3 t199)) then (some ([] : List (List Int))) else (codewrightref24_Span.l1 k1 a1 l2 a3 x9_1 x10_1 t195 ([] : List (List Int)) 0 a0_0 a0_1 l0_2))) = some r := H
        have A22 := zA A220
        clear A220
        by_cases c23 : t199 = 0
        ·
         rw [if_pos c23] at H
         exact absurd H (by simp)
        ·
         rw [if_neg c23] at H
         have c23b0 : (t199 == 0) = false := beq_eq_false_iff_ne.mpr c23
         have c23b1 : (t199 != 0) = true := bne_iff_ne.mpr c23
         by_cases c24 : (x9_1.length : Int) > (wrap64 (Int.tdiv a3 t199))
         ·
          rw [if_pos c24] at H
          have c24b0 : decide ((wrap64 (Int.tdiv a3 t199)) < (x9_1.length : Int)) = true := decide_eq_true c24
          clear c24
          obtain rfl := Option.some.inj H
          try go_wp2
          have n0_ := zA (Kd.N_drew HO_9.out)
          have n1_ := zA (blk_drew BK187.out)
          have n2_ := zA (below_drew1 HB.out)
          clear HO_9
          clear BK187
          clear HB
          have HO_9 := n0_
          have BK187 := n1_
          have HB := n2_
          clear n0_ n1_ n2_
          have p194 : 0 ≤ (x10_1 : Int) := of_decide_eq_true (by assumption)
          have q194 : x10_1 < (l2.length : Int) := of_decide_eq_true (by assumption)
          obtain ⟨ad194, A194_0, c194_0, e194, hx194_0, hl194_0, hi194_0⟩ := at_L1 HR2.out x10_1 p194 q194
          have hw194_0 := hx194_0
          cases e194
          replace hx194_0 := (HB.out.cell (World.block_lt_of_cell? w _ hx194_0)).trans hx194_0
          have HR194_0 := zA hi194_0
          have HC194_0 := zA hl194_0
          clear hi194_0 hl194_0
          replace p194 := eq_true p194
          replace q194 := eq_true q194
          refine start_ (n := 8) (S := fun w' => w'.cell? ⟨gb187, 0, none⟩ = some (.int .i64 a0_0) ∧ w'.cell? ⟨gb187, 1, none⟩ = some (.int .i64 a0_1) ∧ w'.cell? ⟨gb187, 2, none⟩ = some (.slice A0_2 l0_2.length c0_2) ∧ w'.cell? (ad194.add (x10_1).toNat) = some (.slice A194_0 (rd_L1 l2 x10_1).length c194_0)) (ds := []) #[false, false, false, false, false, false, false, false] (by kernel_rfl) rfl rfl ⟨(blk_cell BK187.out 0).trans rfl, (blk_cell BK187.out 1).trans rfl, (blk_cell BK187.out 2).trans rfl, ((HB.out.cell (World.block_lt_of_cell? w _ hw194_0)).trans hw194_0)⟩ (fun hHeld => ?_); refine with_tabW codewrightref24_Span.tab5 codewrightref24_Span.bits5 (fun HT_ HW_ => ?_)
          generalize wr.drew = w25 at HO_9 BK187 HB HR194_0 hx194_0 hHeld ⊢
          refine pure_ (i := 1) (N := some 27) (v := ?_) (a' := ?_) #[false, true, false, false, false, false, false, false] rfl rfl (any_of HT_.out (by kernel_rfl)) (fun _ _ _ h => h) (Or.inl ⟨by rfl, ?_⟩) ?_ ?_
          rotate_left
          ·
           intro w'
           go_simp
           with_reducible rfl
          rotate_left
          ·
           simp only [Act.put, List.setIfInBounds_toArray, List.set_cons_zero, List.set_cons_succ, i64_w, i32_w]
           rfl
          refine pure_ (i := 2) (N := some 28) (v := ?_) (a' := ?_) #[false, true, true, false, false, false, false, false] rfl rfl (any_of HT_.out (by kernel_rfl)) (fun _ _ _ h => h) (Or.inl ⟨by rfl, ?_⟩) ?_ ?_
          rotate_left
          ·
           intro w'
           go_simp
           with_reducible rfl
          rotate_left
          ·
           simp only [Act.put, List.setIfInBounds_toArray, List.set_cons_zero, List.set_cons_succ, i64_w, i32_w]
           rfl
          refine pure_ (i := 3) (N := some 29) (v := ?_) (a' := ?_) #[false, true, true, true, false, false, false, false] rfl rfl (any_of HT_.out (by kernel_rfl)) (fun _ _ _ h => h) (Or.inl ⟨by rfl, ?_⟩) ?_ ?_
          rotate_left
          ·
           intro w'
           go_simp
           with_reducible rfl
          rotate_left
          ·
           simp only [Act.put, List.setIfInBounds_toArray, List.set_cons_zero, List.set_cons_succ, i64_w, i32_w]
           rfl
          refine pure_ (i := 4) (N := some 30) (v := ?_) (a' := ?_) #[false, true, true, true, true, false, false, false] rfl rfl (any_of HT_.out (by kernel_rfl)) (fun _ _ _ h => h) (Or.inl ⟨by rfl, ?_⟩) ?_ ?_
          rotate_left
          ·
           intro w'
           go_simp
           with_reducible rfl
          rotate_left
          ·
           simp only [Act.put, List.setIfInBounds_toArray, List.set_cons_zero, List.set_cons_succ, i64_w, i32_w]
           rfl
          refine take_ (i := 0) (N := some 26) (v := ?_) (a' := ?_) #[true, true, true, true, true, false, false, false] rfl rfl (take_ofW HT_.out HW_.out (by kernel_rfl)) (fun _ _ _ h => h) (Or.inl ⟨by rfl, ?_⟩) hHeld ?_ ?_
          rotate_left
          ·
           rintro w' ⟨s0, s1, s2, s3⟩
           go_simp
           with_reducible rfl
          rotate_left
          ·
           simp only [Act.put, List.setIfInBounds_toArray, List.set_cons_zero, List.set_cons_succ, i64_w, i32_w]
           rfl
          refine take_ (i := 5) (N := some 31) (v := ?_) (a' := ?_) #[true, true, true, true, true, true, false, false] rfl rfl (take_ofW HT_.out HW_.out (by kernel_rfl)) (fun _ _ _ h => h) (Or.inl ⟨by rfl, ?_⟩) hHeld ?_ ?_
          rotate_left
          ·
           rintro w' ⟨s0, s1, s2, s3⟩
           go_simp
           with_reducible rfl
          rotate_left
          ·
           simp only [Act.put, List.setIfInBounds_toArray, List.set_cons_zero, List.set_cons_succ, i64_w, i32_w]
           rfl
          refine one_ (i := 6) (N := some 32) #[true, true, true, true, true, true, true, false] rfl rfl (one_of HT_.out (by kernel_rfl)) (by decide) (fun K hK => ?_)
          refine goes_ Try.func42 (by kernel_rfl) rfl #[.agg #[.int .i64 a0_0, .int .i64 a0_1, .slice A0_2 l0_2.length c0_2], .int .i64 a1, .slice A194_0 (rd_L1 l2 x10_1).length c194_0] (by rfl) rfl rfl (by (try simp only [List.map_toArray, List.map_cons, List.map_nil]); first | done | rfl | (simp only [List.length_drop, List.length_take]; rfl)) ?_
          with_reducible refine (codewrightref24_Row.calls k1 a0_0 a0_1 _ _ l0_2 a1 _ _ (rd_L1 l2 x10_1) t195 _ ?side1 ?side2 ?side3 ?side4 A15.out).mono ?_
          (case side1 => exact zC ((Kd.C_below HR0_2.out HB.out)))
          (case side2 => exact HC0_2.out)
          (case side3 => exact zC ((Kd.C_below HR194_0.out HB.out)))
          (case side4 => exact HC194_0.out)
          rintro e w26 ⟨v196, rfl, ho0, hb⟩
          refine ⟨_, rfl, ?_⟩
          have n0_ := zA (Kd.N_elder' (by exact zN HO_9) (Kd.R_base ho0) hb)
          have n1_ := zA (Kd.R_lower (Kd.R_newM (M := fun k_ => (w.heap.size ≤ k_)) ho0 (below_size (by repeat (first | (with_reducible first | exact HB.out | apply below_alloc | apply pw_below_drewN | apply below_drew1 | refine below_set ?_ GE187.out) | exact HB.out))) (fun k_ h_ => h_)) (below_size (by repeat (first | (with_reducible first | exact HB.out | apply below_alloc | apply pw_below_drewN | apply below_drew1 | refine below_set ?_ GE187.out) | exact HB.out))))
          have n2_ := zA (blk_below (g := gb187) (o := .cells #[.int .i64 a0_0, .int .i64 a0_1, .slice A0_2 l0_2.length c0_2] 24 (0, 0)) (by exact zK BK187) hb)
          have n3_ := zA (below_step (by repeat (first | (with_reducible first | exact HB.out | apply below_alloc | apply pw_below_drewN | apply below_drew1 | refine below_set ?_ GE187.out) | exact HB.out)) hb)
          clear HO_9
          clear BK187
          clear HB
          have HO_9 := n0_
          have HO197 := n1_
          have BK187 := n2_
          have HB := n3_
          clear n0_ n1_ n2_ n3_
          (try clear hb)
          (try clear hb2)
          (try clear hk)
          (try clear hi)
          (try clear ho0)
          refine hK.out _ _ ⟨(blk_cell BK187.out 0).trans rfl, (blk_cell BK187.out 1).trans rfl, (blk_cell BK187.out 2).trans rfl, ((HB.out.cell (World.block_lt_of_cell? w _ hw194_0)).trans hw194_0)⟩ (fun hHeld => ?_)
          clear hK K
          refine norm_ (a' := ?_) ?_ ?_
          rotate_left
          ·
           show Act.put _ (some 32) _ = _
           simp only [Act.put, List.setIfInBounds_toArray, List.set_cons_zero, List.set_cons_succ, i64_w, i32_w]
           rfl
          refine pure_ (i := 7) (N := some 11) (v := ?_) (a' := ?_) #[true, true, true, true, true, true, true, true] rfl rfl (any_of HT_.out (by kernel_rfl)) (fun _ _ _ h => h) (Or.inl ⟨by rfl, ?_⟩) ?_ ?_
          rotate_left
          ·
           intro w'
           go_simp
           with_reducible rfl
          rotate_left
          ·
           simp only [Act.put, List.setIfInBounds_toArray, List.set_cons_zero, List.set_cons_succ, i64_w, i32_w]
           rfl
          refine done_ (done_of HT_.out (by kernel_rfl)) ?_
          obtain ⟨Ao27, co27, eo27⟩ := Kd.N_slice HO_9.out
          subst eo27
          obtain ⟨Ao28, co28, eo28⟩ := Kd.R_slice HO197.out
          subst eo28
          try go_wp2_with (first | ((with_reducible refine gate_callee (f := 43) rfl ?_); refine goesL_ (some 35) rfl rfl Try.func43 (by kernel_rfl) rfl #[.slice Ao27 x9_1.length co27, .slice Ao28 t195.length co28] rfl (by (try simp only [List.map_toArray, List.map_cons, List.map_nil]); first | done | rfl | (simp only [List.length_drop, List.length_take]; rfl)) ?_; (with_reducible refine (codewrightref24_has.calls k1 _ _ x9_1 _ _ t195 false _ ?side1 ?side2 ?side3 ?side4 A16.out).mono ?_); (case side1 => exact zC ((Kd.N_reads' HO_9.out).2.2)); (case side2 => exact (Kd.N_reads' HO_9.out).2.1); (case side3 => exact zC ((Kd.R_reads' HO197.out).2.2)); (case side4 => exact (Kd.R_reads' HO197.out).2.1); rintro e w' ⟨rfl, ⟨nd, rfl⟩⟩; refine ⟨_, rfl, ?_⟩; have hcz29_0 : w26.cell? ⟨gb187, 0, none⟩ = some (.int .i64 a0_0) := (blk_cell BK187.out 0).trans rfl; have hcz29_1 : w26.cell? ⟨gb187, 1, none⟩ = some (.int .i64 a0_1) := (blk_cell BK187.out 1).trans rfl; have hcz29_2 : w26.cell? ⟨gb187, 2, none⟩ = some (.slice A0_2 l0_2.length c0_2) := (blk_cell BK187.out 2).trans rfl; have hfz29_0 := blk_frozen BK187.out 0; have hfz29_1 := blk_frozen BK187.out 1; have hfz29_2 := blk_frozen BK187.out 2) | ((with_reducible refine gate_callee (f := 10) rfl ?_); refine goesL_ (some 40) rfl rfl Try.func10 (by kernel_rfl) rfl #[.agg #[.int .i64 a0_0, .int .i64 a0_1, .slice A0_2 l0_2.length c0_2]] rfl (by (try simp only [List.map_toArray, List.map_cons, List.map_nil]); first | done | rfl | (simp only [List.length_drop, List.length_take]; rfl)) ?_; (with_reducible refine (codewrightref04_Order.calls k1 a0_0 a0_1 _ _ l0_2 t199 _ ?side1 ?side2 A22.out).mono ?_); (case side1 => repeat (first | exact (Kd.C_below HR0_2.out (by repeat (first | (with_reducible first | exact HB.out | apply below_alloc | apply pw_below_drewN | apply below_drew1 | refine below_set ?_ GE187.out) | exact HB.out))) | (with_reducible refine Kd.C_alloc ?_ _) | (with_reducible refine Kd.C_drewN ?_ _) | (with_reducible refine Kd.C_drew ?_))); (case side2 => exact HC0_2.out); rintro e w30 ⟨rfl, hb⟩; refine ⟨_, rfl, ?_⟩; replace HO_9 := zA (Kd.N_below (by exact zN HO_9) hb); replace HO197 := zA (Kd.R_below (by exact zR HO197) hb); replace BK187 := zA (blk_below (g := gb187) (o := .cells #[.int .i64 a0_0, .int .i64 a0_1, .slice A0_2 l0_2.length c0_2] 24 (0, 0)) (by exact zK BK187) hb); replace HB := zA (below_step (by repeat (first | (with_reducible first | exact HB.out | apply below_alloc | apply pw_below_drewN | apply below_drew1 | refine below_set ?_ GE187.out) | exact HB.out)) hb); (try clear hb)))
          go_ret
          exact ⟨_, by first | rfl | (simp [errW_none, errW_some] <;> rfl) | (simp [*, errW_none, errW_some] <;> rfl), by first | exact Kd.S_nil _ _ _ _ _ | exact Kd.N_nil _ _ _ _ _ | exact Kd.V_nil _ _ _ _ _ | exact Kd.Q_nil _ _ _ _ _ | exact Kd.R_nil _ _ _ _ _, by repeat (first | (with_reducible first | exact HB.out | apply below_alloc | apply pw_below_drewN | apply below_drew1 | refine below_set ?_ GE187.out) | exact HB.out)⟩
         ·
          rw [if_neg c24] at H
          have c24b0 : decide ((wrap64 (Int.tdiv a3 t199)) < (x9_1.length : Int)) = false := decide_eq_false c24
          clear c24
          have H' := zA H
          clear H
          try go_wp2
          have n0_ := zA (Kd.N_drew HO_9.out)
          have n1_ := zA (blk_drew BK187.out)
          have n2_ := zA (below_drew1 HB.out)
          clear HO_9
          clear BK187
          clear HB
          have HO_9 := n0_
          have BK187 := n1_
          have HB := n2_
          clear n0_ n1_ n2_
          have p194 : 0 ≤ (x10_1 : Int) := of_decide_eq_true (by assumption)
          have q194 : x10_1 < (l2.length : Int) := of_decide_eq_true (by assumption)
          obtain ⟨ad194, A194_0, c194_0, e194, hx194_0, hl194_0, hi194_0⟩ := at_L1 HR2.out x10_1 p194 q194
          have hw194_0 := hx194_0
          cases e194
          replace hx194_0 := (HB.out.cell (World.block_lt_of_cell? w _ hx194_0)).trans hx194_0
          have HR194_0 := zA hi194_0
          have HC194_0 := zA hl194_0
          clear hi194_0 hl194_0
          replace p194 := eq_true p194
          replace q194 := eq_true q194
          refine start_ (n := 8) (S := fun w' => w'.cell? ⟨gb187, 0, none⟩ = some (.int .i64 a0_0) ∧ w'.cell? ⟨gb187, 1, none⟩ = some (.int .i64 a0_1) ∧ w'.cell? ⟨gb187, 2, none⟩ = some (.slice A0_2 l0_2.length c0_2) ∧ w'.cell? (ad194.add (x10_1).toNat) = some (.slice A194_0 (rd_L1 l2 x10_1).length c194_0)) (ds := []) #[false, false, false, false, false, false, false, false] (by kernel_rfl) rfl rfl ⟨(blk_cell BK187.out 0).trans rfl, (blk_cell BK187.out 1).trans rfl, (blk_cell BK187.out 2).trans rfl, ((HB.out.cell (World.block_lt_of_cell? w _ hw194_0)).trans hw194_0)⟩ (fun hHeld => ?_); refine with_tabW codewrightref24_Span.tab5 codewrightref24_Span.bits5 (fun HT_ HW_ => ?_)
          generalize wr.drew = w31 at HO_9 BK187 HB HR194_0 hx194_0 hHeld ⊢
          refine pure_ (i := 1) (N := some 27) (v := ?_) (a' := ?_) #[false, true, false, false, false, false, false, false] rfl rfl (any_of HT_.out (by kernel_rfl)) (fun _ _ _ h => h) (Or.inl ⟨by rfl, ?_⟩) ?_ ?_
          rotate_left
          ·
           intro w'
           go_simp
           with_reducible rfl
          rotate_left
          ·
           simp only [Act.put, List.setIfInBounds_toArray, List.set_cons_zero, List.set_cons_succ, i64_w, i32_w]
           rfl
          refine pure_ (i := 2) (N := some 28) (v := ?_) (a' := ?_) #[false, true, true, false, false, false, false, false] rfl rfl (any_of HT_.out (by kernel_rfl)) (fun _ _ _ h => h) (Or.inl ⟨by rfl, ?_⟩) ?_ ?_
          rotate_left
          ·
           intro w'
           go_simp
           with_reducible rfl
          rotate_left
          ·
           simp only [Act.put, List.setIfInBounds_toArray, List.set_cons_zero, List.set_cons_succ, i64_w, i32_w]
           rfl
          refine pure_ (i := 3) (N := some 29) (v := ?_) (a' := ?_) #[false, true, true, true, false, false, false, false] rfl rfl (any_of HT_.out (by kernel_rfl)) (fun _ _ _ h => h) (Or.inl ⟨by rfl, ?_⟩) ?_ ?_
          rotate_left
          ·
           intro w'
           go_simp
           with_reducible rfl
          rotate_left
          ·
           simp only [Act.put, List.setIfInBounds_toArray, List.set_cons_zero, List.set_cons_succ, i64_w, i32_w]
           rfl
          refine pure_ (i := 4) (N := some 30) (v := ?_) (a' := ?_) #[false, true, true, true, true, false, false, false] rfl rfl (any_of HT_.out (by kernel_rfl)) (fun _ _ _ h => h) (Or.inl ⟨by rfl, ?_⟩) ?_ ?_
          rotate_left
          ·
           intro w'
           go_simp
           with_reducible rfl
          rotate_left
          ·
           simp only [Act.put, List.setIfInBounds_toArray, List.set_cons_zero, List.set_cons_succ, i64_w, i32_w]
           rfl
          refine take_ (i := 0) (N := some 26) (v := ?_) (a' := ?_) #[true, true, true, true, true, false, false, false] rfl rfl (take_ofW HT_.out HW_.out (by kernel_rfl)) (fun _ _ _ h => h) (Or.inl ⟨by rfl, ?_⟩) hHeld ?_ ?_
          rotate_left
          ·
           rintro w' ⟨s0, s1, s2, s3⟩
           go_simp
           with_reducible rfl
          rotate_left
          ·
           simp only [Act.put, List.setIfInBounds_toArray, List.set_cons_zero, List.set_cons_succ, i64_w, i32_w]
           rfl
          refine take_ (i := 5) (N := some 31) (v := ?_) (a' := ?_) #[true, true, true, true, true, true, false, false] rfl rfl (take_ofW HT_.out HW_.out (by kernel_rfl)) (fun _ _ _ h => h) (Or.inl ⟨by rfl, ?_⟩) hHeld ?_ ?_
          rotate_left
          ·
           rintro w' ⟨s0, s1, s2, s3⟩
           go_simp
           with_reducible rfl
          rotate_left
          ·
           simp only [Act.put, List.setIfInBounds_toArray, List.set_cons_zero, List.set_cons_succ, i64_w, i32_w]
           rfl
          refine one_ (i := 6) (N := some 32) #[true, true, true, true, true, true, true, false] rfl rfl (one_of HT_.out (by kernel_rfl)) (by decide) (fun K hK => ?_)
          refine goes_ Try.func42 (by kernel_rfl) rfl #[.agg #[.int .i64 a0_0, .int .i64 a0_1, .slice A0_2 l0_2.length c0_2], .int .i64 a1, .slice A194_0 (rd_L1 l2 x10_1).length c194_0] (by rfl) rfl rfl (by (try simp only [List.map_toArray, List.map_cons, List.map_nil]); first | done | rfl | (simp only [List.length_drop, List.length_take]; rfl)) ?_
          with_reducible refine (codewrightref24_Row.calls k1 a0_0 a0_1 _ _ l0_2 a1 _ _ (rd_L1 l2 x10_1) t195 _ ?side1 ?side2 ?side3 ?side4 A15.out).mono ?_
          (case side1 => exact zC ((Kd.C_below HR0_2.out HB.out)))
          (case side2 => exact HC0_2.out)
          (case side3 => exact zC ((Kd.C_below HR194_0.out HB.out)))
          (case side4 => exact HC194_0.out)
          rintro e w32 ⟨v196, rfl, ho0, hb⟩
          refine ⟨_, rfl, ?_⟩
          have n0_ := zA (Kd.N_elder' (by exact zN HO_9) (Kd.R_base ho0) hb)
          have n1_ := zA (Kd.R_lower (Kd.R_newM (M := fun k_ => (w.heap.size ≤ k_)) ho0 (below_size (by repeat (first | (with_reducible first | exact HB.out | apply below_alloc | apply pw_below_drewN | apply below_drew1 | refine below_set ?_ GE187.out) | exact HB.out))) (fun k_ h_ => h_)) (below_size (by repeat (first | (with_reducible first | exact HB.out | apply below_alloc | apply pw_below_drewN | apply below_drew1 | refine below_set ?_ GE187.out) | exact HB.out))))
          have n2_ := zA (blk_below (g := gb187) (o := .cells #[.int .i64 a0_0, .int .i64 a0_1, .slice A0_2 l0_2.length c0_2] 24 (0, 0)) (by exact zK BK187) hb)
          have n3_ := zA (below_step (by repeat (first | (with_reducible first | exact HB.out | apply below_alloc | apply pw_below_drewN | apply below_drew1 | refine below_set ?_ GE187.out) | exact HB.out)) hb)
          clear HO_9
          clear BK187
          clear HB
          have HO_9 := n0_
          have HO197 := n1_
          have BK187 := n2_
          have HB := n3_
          clear n0_ n1_ n2_ n3_
          (try clear hb)
          (try clear hb2)
          (try clear hk)
          (try clear hi)
          (try clear ho0)
          refine hK.out _ _ ⟨(blk_cell BK187.out 0).trans rfl, (blk_cell BK187.out 1).trans rfl, (blk_cell BK187.out 2).trans rfl, ((HB.out.cell (World.block_lt_of_cell? w _ hw194_0)).trans hw194_0)⟩ (fun hHeld => ?_)
          clear hK K
          refine norm_ (a' := ?_) ?_ ?_
          rotate_left
          ·
           show Act.put _ (some 32) _ = _
           simp only [Act.put, List.setIfInBounds_toArray, List.set_cons_zero, List.set_cons_succ, i64_w, i32_w]
           rfl
          refine pure_ (i := 7) (N := some 11) (v := ?_) (a' := ?_) #[true, true, true, true, true, true, true, true] rfl rfl (any_of HT_.out (by kernel_rfl)) (fun _ _ _ h => h) (Or.inl ⟨by rfl, ?_⟩) ?_ ?_
          rotate_left
          ·
           intro w'
           go_simp
           with_reducible rfl
          rotate_left
          ·
           simp only [Act.put, List.setIfInBounds_toArray, List.set_cons_zero, List.set_cons_succ, i64_w, i32_w]
           rfl
          refine done_ (done_of HT_.out (by kernel_rfl)) ?_
          obtain ⟨Ao33, co33, eo33⟩ := Kd.N_slice HO_9.out
          subst eo33
          obtain ⟨Ao34, co34, eo34⟩ := Kd.R_slice HO197.out
          subst eo34
          try go_wp2_with (first | ((with_reducible refine gate_callee (f := 43) rfl ?_); refine goesL_ (some 35) rfl rfl Try.func43 (by kernel_rfl) rfl #[.slice Ao33 x9_1.length co33, .slice Ao34 t195.length co34] rfl (by (try simp only [List.map_toArray, List.map_cons, List.map_nil]); first | done | rfl | (simp only [List.length_drop, List.length_take]; rfl)) ?_; (with_reducible refine (codewrightref24_has.calls k1 _ _ x9_1 _ _ t195 false _ ?side1 ?side2 ?side3 ?side4 A16.out).mono ?_); (case side1 => exact zC ((Kd.N_reads' HO_9.out).2.2)); (case side2 => exact (Kd.N_reads' HO_9.out).2.1); (case side3 => exact zC ((Kd.R_reads' HO197.out).2.2)); (case side4 => exact (Kd.R_reads' HO197.out).2.1); rintro e w' ⟨rfl, ⟨nd, rfl⟩⟩; refine ⟨_, rfl, ?_⟩; have hcz35_0 : w32.cell? ⟨gb187, 0, none⟩ = some (.int .i64 a0_0) := (blk_cell BK187.out 0).trans rfl; have hcz35_1 : w32.cell? ⟨gb187, 1, none⟩ = some (.int .i64 a0_1) := (blk_cell BK187.out 1).trans rfl; have hcz35_2 : w32.cell? ⟨gb187, 2, none⟩ = some (.slice A0_2 l0_2.length c0_2) := (blk_cell BK187.out 2).trans rfl; have hfz35_0 := blk_frozen BK187.out 0; have hfz35_1 := blk_frozen BK187.out 1; have hfz35_2 := blk_frozen BK187.out 2) | ((with_reducible refine gate_callee (f := 10) rfl ?_); refine goesL_ (some 40) rfl rfl Try.func10 (by kernel_rfl) rfl #[.agg #[.int .i64 a0_0, .int .i64 a0_1, .slice A0_2 l0_2.length c0_2]] rfl (by (try simp only [List.map_toArray, List.map_cons, List.map_nil]); first | done | rfl | (simp only [List.length_drop, List.length_take]; rfl)) ?_; (with_reducible refine (codewrightref04_Order.calls k1 a0_0 a0_1 _ _ l0_2 t199 _ ?side1 ?side2 A22.out).mono ?_); (case side1 => repeat (first | exact (Kd.C_below HR0_2.out (by repeat (first | (with_reducible first | exact HB.out | apply below_alloc | apply pw_below_drewN | apply below_drew1 | refine below_set ?_ GE187.out) | exact HB.out))) | (with_reducible refine Kd.C_alloc ?_ _) | (with_reducible refine Kd.C_drewN ?_ _) | (with_reducible refine Kd.C_drew ?_))); (case side2 => exact HC0_2.out); rintro e w36 ⟨rfl, hb⟩; refine ⟨_, rfl, ?_⟩; replace HO_9 := zA (Kd.N_below (by exact zN HO_9) hb); replace HO197 := zA (Kd.R_below (by exact zR HO197) hb); replace BK187 := zA (blk_below (g := gb187) (o := .cells #[.int .i64 a0_0, .int .i64 a0_1, .slice A0_2 l0_2.length c0_2] 24 (0, 0)) (by exact zK BK187) hb); replace HB := zA (below_step (by repeat (first | (with_reducible first | exact HB.out | apply below_alloc | apply pw_below_drewN | apply below_drew1 | refine below_set ?_ GE187.out) | exact HB.out)) hb); (try clear hb)))
          go_loopg [12, 13] k1 (fun kq v12 v13 w' => ∃ (x11_2 : List Int) (x12_2 : List (List Int)) (x13_2 : Int), v13 = .int .i64 x13_2 ∧ Aside0 (codewrightref24_Span.l1 kq a1 l2 a3 x9_1 x10_1 x11_2 x12_2 x13_2 a0_0 a0_1 l0_2 = some r) ∧ Aside0 (kq ≤ k1) ∧ Aside0 (Kd.N (Kd.slice 3 (Kd.int .i64)) 22 w' w.heap.size (fun k_ => (w.heap.size ≤ k_) ∧ some k_ ≠ ((.slice Ao34 t195.length co34) : Value).ownBlock ∧ some k_ ≠ (v12 : Value).ownBlock ∧ k_ ≠ gb187) (.slice Ao33 x9_1.length co33) x9_1) ∧ Aside0 (Kd.R (Kd.int .i64) 3 w' w.heap.size (fun k_ => (w.heap.size ≤ k_)) (.slice Ao34 t195.length co34) x11_2) ∧ Aside0 (Kd.N (Kd.slice 3 (Kd.int .i64)) 22 w' w.heap.size (fun k_ => (w.heap.size ≤ k_) ∧ some k_ ≠ ((.slice Ao33 x9_1.length co33) : Value).ownBlock ∧ some k_ ≠ ((.slice Ao34 t195.length co34) : Value).ownBlock ∧ k_ ≠ gb187) v12 x12_2) ∧ Aside0 (w'.heap[gb187]? = some (.cells #[.int .i64 a0_0, .int .i64 a0_1, (.slice A0_2 l0_2.length c0_2)] 24 (0, 0))) ∧ Aside0 (Below w.heap.size w w'))
          case atStart => exact ⟨(t195), (([] : List (List Int))), (0), (by first | rfl | (simp; done) | (simp [*]; done)), H', ⟨Nat.le_refl _⟩, ⟨by (with_reducible repeat (first | apply Kd.N_alloc | apply Kd.N_drewN | apply Kd.N_drew)); exact Kd.N_mono HO_9.out (fun _ hk => ⟨hk.1.1, ⟨hk.2, ⟨(by simp [Value.ownBlock]), hk.1.2⟩⟩⟩)⟩, ⟨by (with_reducible repeat (first | apply Kd.R_alloc | apply Kd.R_drewN | apply Kd.R_drew)); exact Kd.R_mono HO197.out (fun _ hk => hk.1)⟩, ⟨by first | exact Kd.S_nil _ _ _ _ _ | exact Kd.N_nil _ _ _ _ _ | exact Kd.V_nil _ _ _ _ _ | exact Kd.Q_nil _ _ _ _ _ | exact Kd.R_nil _ _ _ _ _⟩, ⟨by exact zK BK187⟩, ⟨by repeat (first | (with_reducible first | exact HB.out | apply below_alloc | apply pw_below_drewN | apply below_drew1 | refine below_set ?_ GE187.out) | exact HB.out)⟩⟩
          case round =>
           clear H'
           try clear c1
           try clear p1
           try clear q1
           try clear hx1
           try clear c2
           try clear p2
           try clear c4
           try clear c5
           try clear c5b0
           try clear c5b1
           try clear c6
           try clear c6b0
           try clear c6b1
           try clear p6
           try clear c9
           try clear c10
           try clear c13
           try clear c13b0
           try clear c14
           try clear c14b0
           try clear c17
           try clear c19
           try clear p19
           try clear q19
           try clear hx19
           try clear c23
           try clear c23b0
           try clear c23b1
           try clear c24
           try clear c24b0
           try clear hcz29_0
           try clear hcz29_1
           try clear hcz29_2
           try clear hcz35_0
           try clear hcz35_1
           try clear hcz35_2
           try clear hfz29_0
           try clear hfz29_1
           try clear hfz29_2
           try clear hfz35_0
           try clear hfz35_1
           try clear hfz35_2
           try clear hx194_0
           try clear p194
           try clear p2
           try clear q194
           obtain ⟨x11_2, x12_2, x13_2, rfl, HA, HK2, HO_9, HO_11, HO_12, BK187, HB⟩ := hrel
           have hl11_2 := (Kd.R_reads' HO_11.out).1
           rw [hl11_2] at HO_11
           (try simp only [hl11_2])
           (try simp only [hl11_2] at BK187)
           (try simp only [hl11_2] at HO_9)
           (try simp only [hl11_2] at HO_12)
           cases gk with
           | zero => exact absurd HA.out (by simp [codewrightref24_Span.l1])
           | succ k2 =>
            have H := HA.out
            clear HA
            simp only [codewrightref24_Span.l1] at H
            replace H := Option.bind_eq_some_iff.mp H
            obtain ⟨t200, A370, H⟩ := H
            replace H : (if x13_2 < t200 then (codewrightref24_Span.l2 k2 a1 l2 a3 x9_1 x10_1 x11_2 x12_2 x13_2 0 a0_0 a0_1 l0_2) else (codewrightref24_Span.l0 k2 a1 l2 a3 x12_2 (wrap64 (x10_1 + 1)) a0_0 a0_1 l0_2)) = some r := H
            have A37 := zA A370
            clear A370
            by_cases c38 : x13_2 < t200
            ·
             rw [if_pos c38] at H
             have c38b0 : decide (x13_2 < t200) = true := decide_eq_true c38
             clear c38
             have H' := zA H
             clear H
             have hcz39_0 : wr.cell? ⟨gb187, 0, none⟩ = some (.int .i64 a0_0) := (blk_cell BK187.out 0).trans rfl
             have hcz39_1 : wr.cell? ⟨gb187, 1, none⟩ = some (.int .i64 a0_1) := (blk_cell BK187.out 1).trans rfl
             have hcz39_2 : wr.cell? ⟨gb187, 2, none⟩ = some (.slice A0_2 l0_2.length c0_2) := (blk_cell BK187.out 2).trans rfl
             have hfz39_0 := blk_frozen BK187.out 0
             have hfz39_1 := blk_frozen BK187.out 1
             have hfz39_2 := blk_frozen BK187.out 2
             go_wp2_with (first | ((with_reducible refine gate_callee (f := 10) rfl ?_); refine goesL_ (some 45) rfl rfl Try.func10 (by kernel_rfl) rfl #[.agg #[.int .i64 a0_0, .int .i64 a0_1, .slice A0_2 l0_2.length c0_2]] rfl (by (try simp only [List.map_toArray, List.map_cons, List.map_nil]); first | done | rfl | (simp only [List.length_drop, List.length_take]; rfl)) ?_; (with_reducible refine (codewrightref04_Order.calls k2 a0_0 a0_1 _ _ l0_2 t200 _ ?side1 ?side2 A37.out).mono ?_); (case side1 => exact zC ((Kd.C_below HR0_2.out HB.out))); (case side2 => exact HC0_2.out); rintro e w40 ⟨rfl, hb⟩; refine ⟨_, rfl, ?_⟩; replace HO_9 := zA (Kd.N_below (by exact zN HO_9) hb); replace HO_11 := zA (Kd.R_below (by exact zR HO_11) hb); replace HO_12 := zA (Kd.N_below (by exact zN HO_12) hb); replace BK187 := zA (blk_below (g := gb187) (o := .cells #[.int .i64 a0_0, .int .i64 a0_1, .slice A0_2 l0_2.length c0_2] 24 (0, 0)) (by exact zK BK187) hb); replace HB := zA (below_step (by repeat (first | (with_reducible first | exact HB.out | apply below_alloc | apply pw_below_drewN | apply below_drew1 | refine below_set ?_ GE187.out) | exact HB.out)) hb); (try clear hb)))
             go_loopg [12, 14] k2 (fun kq v12 v14 w' => ∃ (x11_3 : List Int) (x12_3 : List (List Int)) (x14_3 : Int), v14 = .int .i64 x14_3 ∧ Aside0 (codewrightref24_Span.l2 kq a1 l2 a3 x9_1 x10_1 x11_3 x12_3 x13_2 x14_3 a0_0 a0_1 l0_2 = some r) ∧ Aside0 (kq ≤ k2) ∧ Aside0 (Kd.N (Kd.slice 3 (Kd.int .i64)) 22 w' w.heap.size (fun k_ => (w.heap.size ≤ k_) ∧ some k_ ≠ ((.slice Ao34 x11_2.length co34) : Value).ownBlock ∧ some k_ ≠ (v12 : Value).ownBlock ∧ k_ ≠ gb187) (.slice Ao33 x9_1.length co33) x9_1) ∧ Aside0 (Kd.R (Kd.int .i64) 3 w' w.heap.size (fun k_ => (w.heap.size ≤ k_)) (.slice Ao34 x11_2.length co34) x11_3) ∧ Aside0 (Kd.N (Kd.slice 3 (Kd.int .i64)) 22 w' w.heap.size (fun k_ => (w.heap.size ≤ k_) ∧ some k_ ≠ ((.slice Ao33 x9_1.length co33) : Value).ownBlock ∧ some k_ ≠ ((.slice Ao34 x11_2.length co34) : Value).ownBlock ∧ k_ ≠ gb187) v12 x12_3) ∧ Aside0 (w'.heap[gb187]? = some (.cells #[.int .i64 a0_0, .int .i64 a0_1, (.slice A0_2 l0_2.length c0_2)] 24 (0, 0))) ∧ Aside0 (Below w.heap.size w w'))
             case atStart => exact ⟨(x11_2), (x12_2), (0), (by first | rfl | (simp; done) | (simp [*]; done)), H', ⟨Nat.le_refl _⟩, ⟨by (try simp only [hl11_2]); exact zN HO_9⟩, ⟨by (try simp only [hl11_2]); exact zR HO_11⟩, ⟨by (try simp only [hl11_2]); exact zN HO_12⟩, ⟨by (try simp only [hl11_2]); exact zK BK187⟩, ⟨by repeat (first | (with_reducible first | exact HB.out | apply below_alloc | apply pw_below_drewN | apply below_drew1 | refine below_set ?_ GE187.out) | exact HB.out)⟩⟩
             case round =>
              clear H'
              try clear c1
              try clear p1
              try clear q1
              try clear hx1
              try clear c2
              try clear p2
              try clear c3
              try clear c4
              try clear c5
              try clear c5b0
              try clear c5b1
              try clear c6
              try clear c6b0
              try clear c6b1
              try clear p6
              try clear c9
              try clear c10
              try clear c13
              try clear c13b0
              try clear c14
              try clear c14b0
              try clear c17
              try clear c19
              try clear p19
              try clear q19
              try clear hx19
              try clear c23
              try clear c23b0
              try clear c23b1
              try clear c24
              try clear c24b0
              try clear c38
              try clear c38b0
              try clear hcz29_0
              try clear hcz29_1
              try clear hcz29_2
              try clear hcz35_0
              try clear hcz35_1
              try clear hcz35_2
              try clear hcz39_0
              try clear hcz39_1
              try clear hcz39_2
              try clear hfz29_0
              try clear hfz29_1
              try clear hfz29_2
              try clear hfz35_0
              try clear hfz35_1
              try clear hfz35_2
              try clear hfz39_0
              try clear hfz39_1
              try clear hfz39_2
              try clear hx194_0
              try clear p1
              try clear p19
              try clear p194
              try clear p2
              try clear p6
              try clear q1
              try clear q19
              try clear q194
              obtain ⟨x11_3, x12_3, x14_3, rfl, HA, HK3, HO_9, HO_11, HO_12, BK187, HB⟩ := hrel
              have hl11_3 := (Kd.R_reads' HO_11.out).1
              rw [hl11_3] at HO_11
              (try simp only [hl11_3])
              (try simp only [hl11_3] at BK187)
              (try simp only [hl11_3] at HO_9)
              (try simp only [hl11_3] at HO_12)
              cases gk with
              | zero => exact absurd HA.out (by simp [codewrightref24_Span.l2])
              | succ k3 =>
               have H := HA.out
               clear HA
               simp only [codewrightref24_Span.l2] at H
               by_cases c41 : x14_3 < (x9_1.length : Int)
               ·
                rw [if_pos c41] at H
                have c41b0 : decide (x14_3 < (x9_1.length : Int)) = true := decide_eq_true c41
                clear c41
                by_cases c42 : 0 ≤ a1
                ·
                 rw [if_pos c42] at H
                 have c42b0 := eq_true c42
                 have c42b1 : decide (0 ≤ a1) = true := decide_eq_true c42
                 clear c42
                 by_cases c43 : (a1 : Int).toNat ≤ 35184372088832
                 ·
                  rw [if_pos c43] at H
                  have c43b0 := eq_true c43
                  have c43b1 : decide ((a1 : Int).toNat ≤ 35184372088832) = true := decide_eq_true c43
                  clear c43
                  obtain ⟨y201, hy201⟩ : ∃ y_ : List Int, y_ = (List.replicate (a1 : Int).toNat 0) := ⟨_, rfl⟩
                  replace H : (codewrightref24_Span.l3 k3 a1 l2 a3 x9_1 x10_1 x11_3 x12_3 x13_2 x14_3 y201 0 a0_0 a0_1 l0_2) = some r := by first | (rw [hy201]; with_reducible exact H) | (have H := (Option.bind_some _ _).symm.trans H; first | (rw [hy201]; with_reducible exact H) | with_reducible exact H) | (rw [hy201]; exact H) | exact H
                  have Ny201 := zA hy201
                  clear hy201
                  have H' := zA H
                  clear H
                  go_wp2_with (first | ((with_reducible refine gate_dst (N := 56) rfl ?_); refine Kd.R_make (Kd.int .i64) _ 3 rfl (N := 56) rfl 22 _ _ rfl a1 rfl rfl Try.underlying22 (.int .i64 0) 8 info3 rfl (by decide) (by omega) 0 (ok := fun _ => True) (okp := fun _ => True) rfl (fun _ hk => hk) trivial (of_decide_eq_true (by assumption)) (Nat.le_trans (Nat.mul_le_mul_right _ (of_decide_eq_true (by assumption) : a1.toNat ≤ 35184372088832)) (by omega)) (Below.refl _ _) (Nat.le_refl _) ?_; intro v202 w44 ho45 hb hg_ hnew_; clear hg_ hnew_; (first | rw [← Ny201.out] at ho45 | (simp only [Int.reduceToNat] at ho45; rw [← Ny201.out] at ho45)); replace HO_9 := zA (Kd.N_elder' (by exact zN HO_9) (Kd.R_base ho45) hb); replace HO_12 := zA (Kd.N_elder' (by exact zN HO_12) (Kd.R_base ho45) hb); have HO203 := zA (Kd.R_lower (Kd.R_new' (Kd.R_newM (M := fun k_ => (w.heap.size ≤ k_)) ho45 (below_size (by repeat (first | (with_reducible first | exact HB.out | apply below_alloc | apply pw_below_drewN | apply below_drew1 | refine below_set ?_ GE187.out) | exact HB.out))) (fun k_ h_ => h_)) (Kd.R_lt (by exact zR HO_11))) (below_size (by repeat (first | (with_reducible first | exact HB.out | apply below_alloc | apply pw_below_drewN | apply below_drew1 | refine below_set ?_ GE187.out) | exact HB.out)))); replace HO_11 := zA (Kd.R_elder' (by exact zR HO_11) (Kd.R_base ho45) hb); replace BK187 := zA (blk_below (g := gb187) (o := .cells #[.int .i64 a0_0, .int .i64 a0_1, .slice A0_2 l0_2.length c0_2] 24 (0, 0)) (by exact zK BK187) hb); replace HB := zA (below_step (by repeat (first | (with_reducible first | exact HB.out | apply below_alloc | apply pw_below_drewN | apply below_drew1 | refine below_set ?_ GE187.out) | exact HB.out)) hb); clear hb ho45))
                  go_loopg [16] k3 (fun kq v16 w' => ∃ (x15_4 : List Int) (x16_4 : Int), v16 = .int .i64 x16_4 ∧ Aside0 (codewrightref24_Span.l3 kq a1 l2 a3 x9_1 x10_1 x11_3 x12_3 x13_2 x14_3 x15_4 x16_4 a0_0 a0_1 l0_2 = some r) ∧ Aside0 (kq ≤ k3) ∧ Aside0 (Kd.N (Kd.slice 3 (Kd.int .i64)) 22 w' w.heap.size (fun k_ => (w.heap.size ≤ k_) ∧ some k_ ≠ ((.slice Ao34 x11_3.length co34) : Value).ownBlock ∧ some k_ ≠ (u12 : Value).ownBlock ∧ some k_ ≠ (v202 : Value).ownBlock ∧ k_ ≠ gb187) (.slice Ao33 x9_1.length co33) x9_1) ∧ Aside0 (Kd.R (Kd.int .i64) 3 w' w.heap.size (fun k_ => (w.heap.size ≤ k_) ∧ some k_ ≠ (v202 : Value).ownBlock) (.slice Ao34 x11_3.length co34) x11_3) ∧ Aside0 (Kd.N (Kd.slice 3 (Kd.int .i64)) 22 w' w.heap.size (fun k_ => (w.heap.size ≤ k_) ∧ some k_ ≠ ((.slice Ao33 x9_1.length co33) : Value).ownBlock ∧ some k_ ≠ ((.slice Ao34 x11_3.length co34) : Value).ownBlock ∧ some k_ ≠ (v202 : Value).ownBlock ∧ k_ ≠ gb187) u12 x12_3) ∧ Aside0 (Kd.R (Kd.int .i64) 3 w' w.heap.size (fun k_ => (w.heap.size ≤ k_) ∧ some k_ ≠ ((.slice Ao34 x11_3.length co34) : Value).ownBlock) v202 x15_4) ∧ Aside0 (w'.heap[gb187]? = some (.cells #[.int .i64 a0_0, .int .i64 a0_1, (.slice A0_2 l0_2.length c0_2)] 24 (0, 0))) ∧ Aside0 (Below w.heap.size w w'))
                  case atStart => exact ⟨(y201), (0), (by first | rfl | (simp; done) | (simp [*]; done)), H', ⟨Nat.le_refl _⟩, ⟨by (try simp only [hl11_2]); (try simp only [hl11_3]); (with_reducible repeat (first | apply Kd.N_alloc | apply Kd.N_drewN | apply Kd.N_drew)); exact Kd.N_mono HO_9.out (fun _ hk => ⟨hk.1.1, ⟨hk.1.2.1, ⟨hk.1.2.2.1, ⟨hk.2, hk.1.2.2.2⟩⟩⟩⟩)⟩, ⟨by (try simp only [hl11_2]); (try simp only [hl11_3]); exact zR HO_11⟩, ⟨by (try simp only [hl11_2]); (try simp only [hl11_3]); (with_reducible repeat (first | apply Kd.N_alloc | apply Kd.N_drewN | apply Kd.N_drew)); exact Kd.N_mono HO_12.out (fun _ hk => ⟨hk.1.1, ⟨hk.1.2.1, ⟨hk.1.2.2.1, ⟨hk.2, hk.1.2.2.2⟩⟩⟩⟩)⟩, ⟨by (try simp only [hl11_2]); (try simp only [hl11_3]); (with_reducible repeat (first | apply Kd.R_alloc | apply Kd.R_drewN | apply Kd.R_drew)); exact Kd.R_mono HO203.out (fun _ hk => ⟨hk.1.1, hk.2⟩)⟩, ⟨by (try simp only [hl11_2]); (try simp only [hl11_3]); exact zK BK187⟩, ⟨by repeat (first | (with_reducible first | exact HB.out | apply below_alloc | apply pw_below_drewN | apply below_drew1 | refine below_set ?_ GE187.out) | exact HB.out)⟩⟩
                  case round =>
                   clear H'
                   try clear c1
                   try clear p1
                   try clear q1
                   try clear hx1
                   try clear c2
                   try clear p2
                   try clear c3
                   try clear c4
                   try clear c5
                   try clear c5b0
                   try clear c5b1
                   try clear c6
                   try clear c6b0
                   try clear c6b1
                   try clear p6
                   try clear c9
                   try clear c10
                   try clear c13
                   try clear c13b0
                   try clear c14
                   try clear c14b0
                   try clear c17
                   try clear c19
                   try clear p19
                   try clear q19
                   try clear hx19
                   try clear c23
                   try clear c23b0
                   try clear c23b1
                   try clear c24
                   try clear c24b0
                   try clear c38
                   try clear c38b0
                   try clear c41
                   try clear c41b0
                   try clear c42
                   try clear c42b0
                   try clear c42b1
                   try clear c43
                   try clear c43b0
                   try clear c43b1
                   try clear hcz29_0
                   try clear hcz29_1
                   try clear hcz29_2
                   try clear hcz35_0
                   try clear hcz35_1
                   try clear hcz35_2
                   try clear hcz39_0
                   try clear hcz39_1
                   try clear hcz39_2
                   try clear hfz29_0
                   try clear hfz29_1
                   try clear hfz29_2
                   try clear hfz35_0
                   try clear hfz35_1
                   try clear hfz35_2
                   try clear hfz39_0
                   try clear hfz39_1
                   try clear hfz39_2
                   try clear hx194_0
                   try clear p1
                   try clear p19
                   try clear p194
                   try clear p2
                   try clear p6
                   try clear q1
                   try clear q19
                   try clear q194
                   obtain ⟨x15_4, x16_4, rfl, HA, HK4, HO_9, HO_11, HO_12, HO_15, BK187, HB⟩ := hrel
                   cases gk with
                   | zero => exact absurd HA.out (by simp [codewrightref24_Span.l3])
                   | succ k4 =>
                    have H := HA.out
                    clear HA
                    simp only [codewrightref24_Span.l3] at H
                    by_cases c46 : x16_4 < a1
                    ·
                     rw [if_pos c46] at H
                     have c46b0 : decide (x16_4 < a1) = true := decide_eq_true c46
                     clear c46
                     by_cases c47 : 0 ≤ x14_3
                     ·
                      rw [if_pos c47] at H
                      have c47b0 : decide (0 ≤ x14_3) = true := decide_eq_true c47
                      clear c47
                      by_cases c48 : x14_3 < (x9_1.length : Int)
                      ·
                       rw [if_pos c48] at H
                       have c48b0 : decide (x14_3 < (x9_1.length : Int)) = true := decide_eq_true c48
                       clear c48
                       by_cases c49 : 0 ≤ x16_4
                       ·
                        rw [if_pos c49] at H
                        have c49b0 : decide (0 ≤ x16_4) = true := decide_eq_true c49
                        clear c49
                        by_cases c50 : x16_4 < ((rd_L1 x9_1 x14_3).length : Int)
                        ·
                         rw [if_pos c50] at H
                         have c50b0 : decide (x16_4 < ((rd_L1 x9_1 x14_3).length : Int)) = true := decide_eq_true c50
                         clear c50
                         by_cases c51 : x16_4 < (x11_3.length : Int)
                         ·
                          rw [if_pos c51] at H
                          have c51b0 : decide (x16_4 < (x11_3.length : Int)) = true := decide_eq_true c51
                          clear c51
                          replace H := Option.bind_eq_some_iff.mp H
                          obtain ⟨t207, A520, H⟩ := H
                          replace H : ((codewrightref04_Add.f k4 a0_0 a0_1 l0_2 (rd (rd_L1 x9_1 x14_3) x16_4) t207).bind fun t208 => (if x16_4 < (x15_4.length : Int) then (codewrightref24_Span.l3 k4 a1 l2 a3 x9_1 x10_1 x11_3 x12_3 x13_2 x14_3 (x15_4.set (x16_4 : Int).toNat t208) (wrap64 (x16_4 + 1)) a0_0 a0_1 l0_2) else (none))) = some r := H
                          have A52 := zA A520
                          clear A520
                          replace H := Option.bind_eq_some_iff.mp H
                          obtain ⟨t208, A530, H⟩ := H
                          replace H : (if x16_4 < (x15_4.length : Int) then (codewrightref24_Span.l3 k4 a1 l2 a3 x9_1 x10_1 x11_3 x12_3 x13_2 x14_3 (x15_4.set (x16_4 : Int).toNat t208) (wrap64 (x16_4 + 1)) a0_0 a0_1 l0_2) else (none)) = some r := H
                          have A53 := zA A530
                          clear A530
                          by_cases c54 : x16_4 < (x15_4.length : Int)
                          ·
                           rw [if_pos c54] at H
                           have c54b0 : decide (x16_4 < (x15_4.length : Int)) = true := decide_eq_true c54
                           clear c54
                           obtain ⟨y209, hy209⟩ : ∃ y_ : List Int, y_ = (x15_4.set (x16_4 : Int).toNat t208) := ⟨_, rfl⟩
                           replace H : (codewrightref24_Span.l3 k4 a1 l2 a3 x9_1 x10_1 x11_3 x12_3 x13_2 x14_3 y209 (wrap64 (x16_4 + 1)) a0_0 a0_1 l0_2) = some r := by first | (rw [hy209]; with_reducible exact H) | (have H := (Option.bind_some _ _).symm.trans H; first | (rw [hy209]; with_reducible exact H) | with_reducible exact H) | (rw [hy209]; exact H) | exact H
                           have Ny209 := zA hy209
                           clear hy209
                           have H' := zA H
                           clear H
                           try go_wp2
                           have n0_ := zA (Kd.N_drew HO_9.out)
                           have n1_ := zA (Kd.R_drew HO_11.out)
                           have n2_ := zA (Kd.N_drew HO_12.out)
                           have n3_ := zA (Kd.R_drew HO_15.out)
                           have n4_ := zA (blk_drew BK187.out)
                           have n5_ := zA (below_drew1 HB.out)
                           clear HO_9
                           clear HO_11
                           clear HO_12
                           clear HO_15
                           clear BK187
                           clear HB
                           have HO_9 := n0_
                           have HO_11 := n1_
                           have HO_12 := n2_
                           have HO_15 := n3_
                           have BK187 := n4_
                           have HB := n5_
                           clear n0_ n1_ n2_ n3_ n4_ n5_
                           have p204 : 0 ≤ (x14_3 : Int) := of_decide_eq_true (by assumption)
                           have q204 : x14_3 < (x9_1.length : Int) := of_decide_eq_true (by assumption)
                           obtain ⟨ad204, A204_0, c204_0, e204, hx204_0, hl204_0, hi204_0⟩ := at_L1 (Kd.N_reads' HO_9.out).2.2 x14_3 p204 q204
                           cases e204
                           obtain ⟨ce204, hce204, hMe204, hcc204⟩ := Kd.N_get HO_9.out [] x14_3 p204 (by first | exact q204 | exact of_decide_eq_true (by assumption) | (have e_ := (Kd.N_reads' HO_9.out).1; omega))
                           obtain ⟨ua204_0, uc204_0, rfl, ul204_0, ge204_0⟩ := Kd.FK_slice_open hMe204
                           have hv204_0 := hcc204 0 _ rfl
                           rw [Nat.add_zero, show ((Kd.slice 3 (Kd.int .i64))).sz = 1 from rfl, Nat.mul_one] at hv204_0
                           replace hv204_0 := Option.some.inj (hv204_0.symm.trans hx204_0)
                           injection hv204_0 with hva_ hvn_ hvc_
                           rw [hva_] at ge204_0
                           rw [hvc_] at ul204_0
                           have HL204_0 := zA (show Kd.V (Kd.int .i64) 3 _ w.heap.size _ _ (rd_L1 x9_1 x14_3) from Kd.V_mk ul204_0 ge204_0)
                           clear hva_ hvn_ hvc_ ge204_0 ul204_0
                           clear hcc204 hce204
                           have HR204_0 := zA hi204_0
                           have HC204_0 := zA hl204_0
                           clear hi204_0 hl204_0
                           replace p204 := eq_true p204
                           replace q204 := eq_true q204
                           have p205 : 0 ≤ (x16_4 : Int) := of_decide_eq_true (by assumption)
                           have q205 : x16_4 < ((rd_L1 x9_1 x14_3).length : Int) := of_decide_eq_true (by assumption)
                           obtain ⟨ad205, e205, hx205_0⟩ := Kd.at_int (by repeat (first | (with_reducible exact HR204_0.out) | (with_reducible refine Kd.C_alloc ?_ _) | (with_reducible refine Kd.C_drewN ?_ _) | (with_reducible refine Kd.C_drew ?_) | exact HR204_0.out)) x16_4 p205 q205
                           cases e205
                           replace p205 := eq_true p205
                           replace q205 := eq_true q205
                           have p206 : 0 ≤ (x16_4 : Int) := of_decide_eq_true (by assumption)
                           have q206 : x16_4 < (x11_3.length : Int) := of_decide_eq_true (by assumption)
                           obtain ⟨ad206, e206, hx206_0⟩ := Kd.at_int (Kd.R_reads' HO_11.out).2.2 x16_4 p206 q206
                           cases e206
                           replace p206 := eq_true p206
                           replace q206 := eq_true q206
                           refine start_ (n := 20) (S := fun w' => w'.cell? ⟨gb187, 0, none⟩ = some (.int .i64 a0_0) ∧ w'.cell? ⟨gb187, 1, none⟩ = some (.int .i64 a0_1) ∧ w'.cell? ⟨gb187, 2, none⟩ = some (.slice A0_2 l0_2.length c0_2) ∧ w'.cell? (ad204.add (x14_3).toNat) = some (.slice (some ad205) (rd_L1 x9_1 x14_3).length c204_0) ∧ w'.cell? (ad205.add (x16_4).toNat) = some (.int .i64 (rd (rd_L1 x9_1 x14_3) x16_4)) ∧ w'.cell? (ad206.add (x16_4).toNat) = some (.int .i64 (rd x11_3 x16_4))) (ds := [19]) #[false, false, false, false, false, false, false, false, false, false, false, false, false, false, false, false, false, false, false, false] (by kernel_rfl) rfl rfl ⟨(blk_cell BK187.out 0).trans rfl, (blk_cell BK187.out 1).trans rfl, (blk_cell BK187.out 2).trans rfl, hx204_0, hx205_0, hx206_0⟩ (fun hHeld => ?_); refine with_tabW codewrightref24_Span.tab20 codewrightref24_Span.bits20 (fun HT_ HW_ => ?_)
                           generalize wr.drew = w56 at HO_9 HO_11 HO_12 HO_15 BK187 HB HL204_0 HR204_0 hx204_0 hx205_0 hx206_0 hHeld ⊢
                           refine pure_ (i := 0) (N := some 62) (v := ?_) (a' := ?_) #[true, false, false, false, false, false, false, false, false, false, false, false, false, false, false, false, false, false, false, false] rfl rfl (any_of HT_.out (by kernel_rfl)) (fun _ _ _ h => h) (Or.inl ⟨by rfl, ?_⟩) ?_ ?_
                           rotate_left
                           ·
                            intro w'
                            go_simp
                            with_reducible rfl
                           rotate_left
                           ·
                            simp only [Act.put, List.setIfInBounds_toArray, List.set_cons_zero, List.set_cons_succ, i64_w, i32_w]
                            rfl
                           refine pure_ (i := 1) (N := some 63) (v := ?_) (a' := ?_) #[true, true, false, false, false, false, false, false, false, false, false, false, false, false, false, false, false, false, false, false] rfl rfl (any_of HT_.out (by kernel_rfl)) (fun _ _ _ h => h) (Or.inl ⟨by rfl, ?_⟩) ?_ ?_
                           rotate_left
                           ·
                            intro w'
                            go_simp
                            with_reducible rfl
                           rotate_left
                           ·
                            simp only [Act.put, List.setIfInBounds_toArray, List.set_cons_zero, List.set_cons_succ, i64_w, i32_w]
                            rfl
                           refine pure_ (i := 3) (N := some 65) (v := ?_) (a' := ?_) #[true, true, false, true, false, false, false, false, false, false, false, false, false, false, false, false, false, false, false, false] rfl rfl (any_of HT_.out (by kernel_rfl)) (fun _ _ _ h => h) (Or.inl ⟨by rfl, ?_⟩) ?_ ?_
                           rotate_left
                           ·
                            intro w'
                            go_simp
                            with_reducible rfl
                           rotate_left
                           ·
                            simp only [Act.put, List.setIfInBounds_toArray, List.set_cons_zero, List.set_cons_succ, i64_w, i32_w]
                            rfl
                           refine pure_ (i := 4) (N := some 66) (v := ?_) (a' := ?_) #[true, true, false, true, true, false, false, false, false, false, false, false, false, false, false, false, false, false, false, false] rfl rfl (any_of HT_.out (by kernel_rfl)) (fun _ _ _ h => h) (Or.inl ⟨by rfl, ?_⟩) ?_ ?_
                           rotate_left
                           ·
                            intro w'
                            go_simp
                            with_reducible rfl
                           rotate_left
                           ·
                            simp only [Act.put, List.setIfInBounds_toArray, List.set_cons_zero, List.set_cons_succ, i64_w, i32_w]
                            rfl
                           refine pure_ (i := 5) (N := some 67) (v := ?_) (a' := ?_) #[true, true, false, true, true, true, false, false, false, false, false, false, false, false, false, false, false, false, false, false] rfl rfl (any_of HT_.out (by kernel_rfl)) (fun _ _ _ h => h) (Or.inl ⟨by rfl, ?_⟩) ?_ ?_
                           rotate_left
                           ·
                            intro w'
                            go_simp
                            with_reducible rfl
                           rotate_left
                           ·
                            simp only [Act.put, List.setIfInBounds_toArray, List.set_cons_zero, List.set_cons_succ, i64_w, i32_w]
                            rfl
                           refine pure_ (i := 7) (N := some 69) (v := ?_) (a' := ?_) #[true, true, false, true, true, true, false, true, false, false, false, false, false, false, false, false, false, false, false, false] rfl rfl (any_of HT_.out (by kernel_rfl)) (fun _ _ _ h => h) (Or.inl ⟨by rfl, ?_⟩) ?_ ?_
                           rotate_left
                           ·
                            intro w'
                            go_simp
                            with_reducible rfl
                           rotate_left
                           ·
                            simp only [Act.put, List.setIfInBounds_toArray, List.set_cons_zero, List.set_cons_succ, i64_w, i32_w]
                            rfl
                           refine pure_ (i := 11) (N := some 73) (v := ?_) (a' := ?_) #[true, true, false, true, true, true, false, true, false, false, false, true, false, false, false, false, false, false, false, false] rfl rfl (any_of HT_.out (by kernel_rfl)) (fun _ _ _ h => h) (Or.inl ⟨by rfl, ?_⟩) ?_ ?_
                           rotate_left
                           ·
                            intro w'
                            go_simp
                            with_reducible rfl
                           rotate_left
                           ·
                            simp only [Act.put, List.setIfInBounds_toArray, List.set_cons_zero, List.set_cons_succ, i64_w, i32_w]
                            rfl
                           refine pure_ (i := 12) (N := some 74) (v := ?_) (a' := ?_) #[true, true, false, true, true, true, false, true, false, false, false, true, true, false, false, false, false, false, false, false] rfl rfl (any_of HT_.out (by kernel_rfl)) (fun _ _ _ h => h) (Or.inl ⟨by rfl, ?_⟩) ?_ ?_
                           rotate_left
                           ·
                            intro w'
                            go_simp
                            with_reducible rfl
                           rotate_left
                           ·
                            simp only [Act.put, List.setIfInBounds_toArray, List.set_cons_zero, List.set_cons_succ, i64_w, i32_w]
                            rfl
                           refine pure_ (i := 13) (N := some 75) (v := ?_) (a' := ?_) #[true, true, false, true, true, true, false, true, false, false, false, true, true, true, false, false, false, false, false, false] rfl rfl (any_of HT_.out (by kernel_rfl)) (fun _ _ _ h => h) (Or.inl ⟨by rfl, ?_⟩) ?_ ?_
                           rotate_left
                           ·
                            intro w'
                            go_simp
                            with_reducible rfl
                           rotate_left
                           ·
                            simp only [Act.put, List.setIfInBounds_toArray, List.set_cons_zero, List.set_cons_succ, i64_w, i32_w]
                            rfl
                           refine pure_ (i := 14) (N := some 76) (v := ?_) (a' := ?_) #[true, true, false, true, true, true, false, true, false, false, false, true, true, true, true, false, false, false, false, false] rfl rfl (any_of HT_.out (by kernel_rfl)) (fun _ _ _ h => h) (Or.inl ⟨by rfl, ?_⟩) ?_ ?_
                           rotate_left
                           ·
                            intro w'
                            go_simp
                            with_reducible rfl
                           rotate_left
                           ·
                            simp only [Act.put, List.setIfInBounds_toArray, List.set_cons_zero, List.set_cons_succ, i64_w, i32_w]
                            rfl
                           refine take_ (i := 2) (N := some 64) (v := ?_) (a' := ?_) #[true, true, true, true, true, true, false, true, false, false, false, true, true, true, true, false, false, false, false, false] rfl rfl (take_ofW HT_.out HW_.out (by kernel_rfl)) (fun _ _ _ h => h) (Or.inl ⟨by rfl, ?_⟩) hHeld ?_ ?_
                           rotate_left
                           ·
                            rintro w' ⟨s0, s1, s2, s3, s4, s5⟩
                            go_simp
                            with_reducible rfl
                           rotate_left
                           ·
                            simp only [Act.put, List.setIfInBounds_toArray, List.set_cons_zero, List.set_cons_succ, i64_w, i32_w]
                            rfl
                           refine take_ (i := 6) (N := some 68) (v := ?_) (a' := ?_) #[true, true, true, true, true, true, true, true, false, false, false, true, true, true, true, false, false, false, false, false] rfl rfl (take_ofW HT_.out HW_.out (by kernel_rfl)) (fun _ _ _ h => h) (Or.inl ⟨by rfl, ?_⟩) hHeld ?_ ?_
                           rotate_left
                           ·
                            rintro w' ⟨s0, s1, s2, s3, s4, s5⟩
                            go_simp
                            with_reducible rfl
                           rotate_left
                           ·
                            simp only [Act.put, List.setIfInBounds_toArray, List.set_cons_zero, List.set_cons_succ, i64_w, i32_w]
                            rfl
                           refine pure_ (i := 8) (N := some 70) (v := ?_) (a' := ?_) #[true, true, true, true, true, true, true, true, true, false, false, true, true, true, true, false, false, false, false, false] rfl rfl (any_of HT_.out (by kernel_rfl)) (fun _ _ _ h => h) (Or.inl ⟨by rfl, ?_⟩) ?_ ?_
                           rotate_left
                           ·
                            intro w'
                            go_simp
                            with_reducible rfl
                           rotate_left
                           ·
                            simp only [Act.put, List.setIfInBounds_toArray, List.set_cons_zero, List.set_cons_succ, i64_w, i32_w]
                            rfl
                           refine take_ (i := 9) (N := some 71) (v := ?_) (a' := ?_) #[true, true, true, true, true, true, true, true, true, true, false, true, true, true, true, false, false, false, false, false] rfl rfl (take_ofW HT_.out HW_.out (by kernel_rfl)) (fun _ _ _ h => h) (Or.inl ⟨by rfl, ?_⟩) hHeld ?_ ?_
                           rotate_left
                           ·
                            rintro w' ⟨s0, s1, s2, s3, s4, s5⟩
                            go_simp
                            with_reducible rfl
                           rotate_left
                           ·
                            simp only [Act.put, List.setIfInBounds_toArray, List.set_cons_zero, List.set_cons_succ, i64_w, i32_w]
                            rfl
                           refine take_ (i := 10) (N := some 72) (v := ?_) (a' := ?_) #[true, true, true, true, true, true, true, true, true, true, true, true, true, true, true, false, false, false, false, false] rfl rfl (take_ofW HT_.out HW_.out (by kernel_rfl)) (fun _ _ _ h => h) (Or.inl ⟨by rfl, ?_⟩) hHeld ?_ ?_
                           rotate_left
                           ·
                            rintro w' ⟨s0, s1, s2, s3, s4, s5⟩
                            go_simp
                            with_reducible rfl
                           rotate_left
                           ·
                            simp only [Act.put, List.setIfInBounds_toArray, List.set_cons_zero, List.set_cons_succ, i64_w, i32_w]
                            rfl
                           refine take_ (i := 15) (N := some 77) (v := ?_) (a' := ?_) #[true, true, true, true, true, true, true, true, true, true, true, true, true, true, true, true, false, false, false, false] rfl rfl (take_ofW HT_.out HW_.out (by kernel_rfl)) (fun _ _ _ h => h) (Or.inl ⟨by rfl, ?_⟩) hHeld ?_ ?_
                           rotate_left
                           ·
                            rintro w' ⟨s0, s1, s2, s3, s4, s5⟩
                            go_simp
                            with_reducible rfl
                           rotate_left
                           ·
                            simp only [Act.put, List.setIfInBounds_toArray, List.set_cons_zero, List.set_cons_succ, i64_w, i32_w]
                            rfl
                           refine one_ (i := 16) (N := some 78) #[true, true, true, true, true, true, true, true, true, true, true, true, true, true, true, true, true, false, false, false] rfl rfl (one_of HT_.out (by kernel_rfl)) (by decide) (fun K hK => ?_)
                           refine goes_ Try.func45 (by kernel_rfl) rfl #[.agg #[.int .i64 a0_0, .int .i64 a0_1, .slice A0_2 l0_2.length c0_2], .int .i64 x13_2, .int .i64 (rd x11_3 x16_4)] (by rfl) rfl rfl (by (try simp only [List.map_toArray, List.map_cons, List.map_nil]); first | done | rfl | (simp only [List.length_drop, List.length_take]; rfl)) ?_
                           with_reducible refine (codewrightref04_Mul.calls k4 a0_0 a0_1 _ _ l0_2 x13_2 (rd x11_3 x16_4) t207 _ ?side1 ?side2 A52.out).mono ?_
                           (case side1 => exact zC ((Kd.C_below HR0_2.out HB.out)))
                           (case side2 => exact HC0_2.out)
                           rintro e w57 ⟨rfl, hb⟩
                           have HS3_ := (hb.cell (World.block_lt_of_cell? _ _ (hHeld.2.2.2.1))).trans (hHeld.2.2.2.1)
                           have HS4_ := (hb.cell (World.block_lt_of_cell? _ _ (hHeld.2.2.2.2.1))).trans (hHeld.2.2.2.2.1)
                           have HS5_ := (hb.cell (World.block_lt_of_cell? _ _ (hHeld.2.2.2.2.2))).trans (hHeld.2.2.2.2.2)
                           refine ⟨_, rfl, ?_⟩
                           have n0_ := zA (Kd.N_below (by exact zN HO_9) hb)
                           have n1_ := zA (Kd.R_below (by exact zR HO_11) hb)
                           have n2_ := zA (Kd.N_below (by exact zN HO_12) hb)
                           have n3_ := zA (Kd.R_below (by exact zR HO_15) hb)
                           have n4_ := zA (Kd.V_below (by (with_reducible repeat (first | apply Kd.V_alloc | apply Kd.V_drewN | apply Kd.V_drew)); exact HL204_0.out) hb)
                           have n5_ := zA (blk_below (g := gb187) (o := .cells #[.int .i64 a0_0, .int .i64 a0_1, .slice A0_2 l0_2.length c0_2] 24 (0, 0)) (by exact zK BK187) hb)
                           have n6_ := zA (Kd.C_below (by repeat (first | (with_reducible exact HR204_0.out) | (with_reducible refine Kd.C_alloc ?_ _) | (with_reducible refine Kd.C_drewN ?_ _) | (with_reducible refine Kd.C_drew ?_) | exact HR204_0.out)) hb)
                           have n7_ := zA (below_step (by repeat (first | (with_reducible first | exact HB.out | apply below_alloc | apply pw_below_drewN | apply below_drew1 | refine below_set ?_ GE187.out) | exact HB.out)) hb)
                           clear HO_9
                           clear HO_11
                           clear HO_12
                           clear HO_15
                           clear HL204_0
                           clear BK187
                           clear HR204_0
                           clear HB
                           have HO_9 := n0_
                           have HO_11 := n1_
                           have HO_12 := n2_
                           have HO_15 := n3_
                           have HL204_0 := n4_
                           have BK187 := n5_
                           have HR204_0 := n6_
                           have HB := n7_
                           clear n0_ n1_ n2_ n3_ n4_ n5_ n6_ n7_
                           (try clear hb)
                           (try clear hb2)
                           (try clear hk)
                           (try clear hi)
                           refine hK.out _ _ ⟨(blk_cell BK187.out 0).trans rfl, (blk_cell BK187.out 1).trans rfl, (blk_cell BK187.out 2).trans rfl, HS3_, HS4_, HS5_⟩ (fun hHeld => ?_)
                           clear hK K
                           refine norm_ (a' := ?_) ?_ ?_
                           rotate_left
                           ·
                            show Act.put _ (some 78) _ = _
                            simp only [Act.put, List.setIfInBounds_toArray, List.set_cons_zero, List.set_cons_succ, i64_w, i32_w]
                            rfl
                           refine one_ (i := 17) (N := some 79) #[true, true, true, true, true, true, true, true, true, true, true, true, true, true, true, true, true, true, false, false] rfl rfl (one_of HT_.out (by kernel_rfl)) (by decide) (fun K hK => ?_)
                           refine goes_ Try.func44 (by kernel_rfl) rfl #[.agg #[.int .i64 a0_0, .int .i64 a0_1, .slice A0_2 l0_2.length c0_2], .int .i64 (rd (rd_L1 x9_1 x14_3) x16_4), .int .i64 t207] (by rfl) rfl rfl (by (try simp only [List.map_toArray, List.map_cons, List.map_nil]); first | done | rfl | (simp only [List.length_drop, List.length_take]; rfl)) ?_
                           with_reducible refine (codewrightref04_Add.calls k4 a0_0 a0_1 _ _ l0_2 (rd (rd_L1 x9_1 x14_3) x16_4) t207 t208 _ ?side1 ?side2 A53.out).mono ?_
                           (case side1 => exact zC ((Kd.C_below HR0_2.out HB.out)))
                           (case side2 => exact HC0_2.out)
                           rintro e w58 ⟨rfl, hb⟩
                           have HS3_ := (hb.cell (World.block_lt_of_cell? _ _ (hHeld.2.2.2.1))).trans (hHeld.2.2.2.1)
                           have HS4_ := (hb.cell (World.block_lt_of_cell? _ _ (hHeld.2.2.2.2.1))).trans (hHeld.2.2.2.2.1)
                           have HS5_ := (hb.cell (World.block_lt_of_cell? _ _ (hHeld.2.2.2.2.2))).trans (hHeld.2.2.2.2.2)
                           refine ⟨_, rfl, ?_⟩
                           have n0_ := zA (Kd.N_below (by exact zN HO_9) hb)
                           have n1_ := zA (Kd.R_below (by exact zR HO_11) hb)
                           have n2_ := zA (Kd.N_below (by exact zN HO_12) hb)
                           have n3_ := zA (Kd.R_below (by exact zR HO_15) hb)
                           have n4_ := zA (Kd.V_below (by (with_reducible repeat (first | apply Kd.V_alloc | apply Kd.V_drewN | apply Kd.V_drew)); exact HL204_0.out) hb)
                           have n5_ := zA (blk_below (g := gb187) (o := .cells #[.int .i64 a0_0, .int .i64 a0_1, .slice A0_2 l0_2.length c0_2] 24 (0, 0)) (by exact zK BK187) hb)
                           have n6_ := zA (Kd.C_below (by repeat (first | (with_reducible exact HR204_0.out) | (with_reducible refine Kd.C_alloc ?_ _) | (with_reducible refine Kd.C_drewN ?_ _) | (with_reducible refine Kd.C_drew ?_) | exact HR204_0.out)) hb)
                           have n7_ := zA (below_step (by repeat (first | (with_reducible first | exact HB.out | apply below_alloc | apply pw_below_drewN | apply below_drew1 | refine below_set ?_ GE187.out) | exact HB.out)) hb)
                           clear HO_9
                           clear HO_11
                           clear HO_12
                           clear HO_15
                           clear HL204_0
                           clear BK187
                           clear HR204_0
                           clear HB
                           have HO_9 := n0_
                           have HO_11 := n1_
                           have HO_12 := n2_
                           have HO_15 := n3_
                           have HL204_0 := n4_
                           have BK187 := n5_
                           have HR204_0 := n6_
                           have HB := n7_
                           clear n0_ n1_ n2_ n3_ n4_ n5_ n6_ n7_
                           (try clear hb)
                           (try clear hb2)
                           (try clear hk)
                           (try clear hi)
                           have p55 : 0 ≤ (x16_4 : Int) := of_decide_eq_true (by assumption)
                           have q55 : (x16_4 : Int) < ((x15_4.length : Int) : Int) := of_decide_eq_true (by assumption)
                           obtain ⟨go55, co55, eo55, gb55, gl55, cl55, HG55⟩ := Kd.R_form HO_15.out (by omega)
                           (first | cases eo55 | (injection eo55 with ea_ en_ ec_; (first | subst ea_ | (injection ea_ with ea_; subst ea_)); subst ec_; clear en_))
                           have GB55 := zA gb55
                           have GG55 := zA HG55
                           clear gb55 gl55 HG55
                           obtain ⟨hx55_0, hf55_0⟩ := Kd.R_celln 0 HO_15.out (x16_4 : Int) p55 q55
                           replace p55 := eq_true p55
                           replace q55 := eq_true q55
                           have HP59 := Kd.R_putn HO_15.out (x16_4 : Int) t208
                           rw [← Ny209.out] at HP59
                           have HQ59 := zA HP59
                           clear HP59
                           refine hK.out _ _ ⟨(blk_cell BK187.out 0).trans rfl, (blk_cell BK187.out 1).trans rfl, (blk_cell BK187.out 2).trans rfl, HS3_, HS4_, HS5_⟩ (fun hHeld => ?_)
                           clear hK K
                           refine norm_ (a' := ?_) ?_ ?_
                           rotate_left
                           ·
                            show Act.put _ (some 79) _ = _
                            simp only [Act.put, List.setIfInBounds_toArray, List.set_cons_zero, List.set_cons_succ, i64_w, i32_w]
                            rfl
                           refine pure_ (i := 18) (N := some 80) (v := ?_) (a' := ?_) #[true, true, true, true, true, true, true, true, true, true, true, true, true, true, true, true, true, true, true, false] rfl rfl (any_of HT_.out (by kernel_rfl)) (fun _ _ _ h => h) (Or.inl ⟨by rfl, ?_⟩) ?_ ?_
                           rotate_left
                           ·
                            intro w'
                            go_simp
                            with_reducible rfl
                           rotate_left
                           ·
                            simp only [Act.put, List.setIfInBounds_toArray, List.set_cons_zero, List.set_cons_succ, i64_w, i32_w]
                            rfl
                           refine last_ (i := 19) (N := none) #[true, true, true, true, true, true, true, true, true, true, true, true, true, true, true, true, true, true, true, true] rfl rfl (one_of HT_.out (by kernel_rfl)) (by decide) (fun K hK => ?_)
                           refine skip_ (w1 := ?_) (by rfl) rfl ?_ ?_
                           rotate_left
                           ·
                            go_simp
                            rfl
                           refine hK.out _ _ ?_
                           clear hK K
                           refine done_ (done_of HT_.out (by kernel_rfl)) ?_
                           try go_wp2
                           go_roundg k4
                           case measure => have := HK1.out; have := HK2.out; have := HK3.out; have := HK4.out; omega
                           case rel => exact ⟨(y209), (wrap64 (x16_4 + 1)), (by first | rfl | (simp; done) | (simp [*]; done)), H', ⟨by have := HK1.out; have := HK2.out; have := HK3.out; have := HK4.out; omega⟩, ⟨by (try simp only [hl11_2]); (try simp only [hl11_3]); (with_reducible repeat (first | apply Kd.N_alloc | apply Kd.N_drewN | apply Kd.N_drew)); exact Kd.N_mono (Kd.N_far (p := ⟨go55, (x16_4 : Int).toNat, none⟩) (Kd.N_mono HO_9.out (fun k_ hk => (⟨hk, fun e_ => hk.2.2.2.1 (by rw [e_]; rfl)⟩ : _ ∧ k_ ≠ go55))) (fun _ hk => hk.2) (.int .i64 t208)) (fun _ hk => ⟨hk.1.1, ⟨hk.1.2.1, ⟨hk.1.2.2.1, ⟨hk.1.2.2.2.1, hk.1.2.2.2.2⟩⟩⟩⟩)⟩, ⟨by (try simp only [hl11_2]); (try simp only [hl11_3]); (with_reducible repeat (first | apply Kd.R_alloc | apply Kd.R_drewN | apply Kd.R_drew)); exact Kd.R_mono (Kd.R_far (p := ⟨go55, (x16_4 : Int).toNat, none⟩) (Kd.R_mono HO_11.out (fun k_ hk => (⟨hk, fun e_ => hk.2 (by rw [e_]; rfl)⟩ : _ ∧ k_ ≠ go55))) (fun _ hk => hk.2) (.int .i64 t208)) (fun _ hk => ⟨hk.1.1, hk.1.2⟩)⟩, ⟨by (try simp only [hl11_2]); (try simp only [hl11_3]); (with_reducible repeat (first | apply Kd.N_alloc | apply Kd.N_drewN | apply Kd.N_drew)); exact Kd.N_mono (Kd.N_far (p := ⟨go55, (x16_4 : Int).toNat, none⟩) (Kd.N_mono HO_12.out (fun k_ hk => (⟨hk, fun e_ => hk.2.2.2.1 (by rw [e_]; rfl)⟩ : _ ∧ k_ ≠ go55))) (fun _ hk => hk.2) (.int .i64 t208)) (fun _ hk => ⟨hk.1.1, ⟨hk.1.2.1, ⟨hk.1.2.2.1, ⟨hk.1.2.2.2.1, hk.1.2.2.2.2⟩⟩⟩⟩)⟩, ⟨by (try simp only [hl11_2]); (try simp only [hl11_3]); (with_reducible repeat (first | apply Kd.R_alloc | apply Kd.R_drewN | apply Kd.R_drew)); exact HQ59.out⟩, ⟨by (try simp only [hl11_2]); (try simp only [hl11_3]); (with_reducible repeat (first | refine blk_drewN ?_ _ | refine blk_drew ?_ | refine blk_alloc ?_ _)); refine blk_far ?_ (by have h_ := Kd.R_ne HO_15.out BK187.out (by decide); intro e_; exact h_ (by rw [e_]; rfl)) _; exact zK BK187⟩, ⟨by repeat (first | (with_reducible first | exact HB.out | apply below_alloc | apply pw_below_drewN | apply below_drew1 | refine below_set ?_ GB55.out | refine below_set ?_ GE187.out) | exact HB.out)⟩⟩
                          ·
                           rw [if_neg c54] at H
                           exact absurd H (by simp)
                         ·
                          rw [if_neg c51] at H
                          exact absurd H (by simp)
                        ·
                         rw [if_neg c50] at H
                         exact absurd H (by simp)
                       ·
                        rw [if_neg c49] at H
                        exact absurd H (by simp)
                      ·
                       rw [if_neg c48] at H
                       exact absurd H (by simp)
                     ·
                      rw [if_neg c47] at H
                      exact absurd H (by simp)
                    ·
                     rw [if_neg c46] at H
                     have c46b0 : decide (x16_4 < a1) = false := decide_eq_false c46
                     clear c46
                     by_cases c60 : x12_3.length < 5864062014805
                     ·
                      rw [if_pos c60] at H
                      have LMc60 := zA c60
                      clear c60
                      obtain ⟨y210, hy210⟩ : ∃ y_ : List (List Int), y_ = (x12_3 ++ [x15_4]) := ⟨_, rfl⟩
                      replace H : (codewrightref24_Span.l2 k4 a1 l2 a3 x9_1 x10_1 x11_3 y210 x13_2 (wrap64 (x14_3 + 1)) a0_0 a0_1 l0_2) = some r := by first | (rw [hy210]; with_reducible exact H) | (have H := (Option.bind_some _ _).symm.trans H; first | (rw [hy210]; with_reducible exact H) | with_reducible exact H) | (rw [hy210]; exact H) | exact H
                      have Ny210 := zA hy210
                      clear hy210
                      have H' := zA H
                      clear H
                      obtain ⟨Ao62, co62, eo62⟩ := Kd.R_slice HO_15.out
                      subst eo62
                      go_wp2_with (first | ((with_reducible refine gate_builtin (b := .append) (xs := #[.tmp 81, .tmp 83]) rfl ?_); at_builtin; refine Kd.N_append (Kd.slice 3 (Kd.int .i64)) (w0 := w) w.heap.size rfl (.tmp 81) (.tmp 83) 25 22 (.slice none 0 0) 24 rfl Try.underlying25 info22 rfl (by decide) (by omega) u12 x12_3 x15_4 [.slice Ao62 x15_4.length co62] (fun k_ => (w.heap.size ≤ k_) ∧ some k_ ≠ (.slice Ao33 x9_1.length co33 : Value).ownBlock ∧ some k_ ≠ (.slice Ao34 x11_3.length co34 : Value).ownBlock ∧ k_ ≠ gb187) (fun k_ => ((fun k_ => (w.heap.size ≤ k_) ∧ some k_ ≠ (.slice Ao33 x9_1.length co33 : Value).ownBlock ∧ some k_ ≠ (.slice Ao34 x11_3.length co34 : Value).ownBlock ∧ k_ ≠ gb187)) k_ ∧ some k_ ≠ (u12 : Value).ownBlock) rfl rfl ?aP (fun _ hk => hk) ?aF ?aO ?aB ?aS ?aL ?_; (case aP => exact (Kd.FK_slice_mk (Kd.R_reads' (Kd.R_mono (ok' := (fun k_ => ((fun k_ => (w.heap.size ≤ k_) ∧ some k_ ≠ (.slice Ao33 x9_1.length co33 : Value).ownBlock ∧ some k_ ≠ (.slice Ao34 x11_3.length co34 : Value).ownBlock ∧ k_ ≠ gb187)) k_ ∧ some k_ ≠ (u12 : Value).ownBlock)) (Kd.R_types (Kd.R_apart' (Kd.R_apart' (HO_15.out) (Kd.N_typed HO_9.out) (by decide)) (Kd.N_typed HO_12.out) (by decide)) BK187.out (by decide)) (fun k_ hk => ⟨⟨hk.1.1.1.1, ⟨hk.1.1.2, ⟨hk.1.1.1.2, hk.2⟩⟩⟩, hk.1.2⟩))).2.1 (Kd.R_F (Kd.R_mono (ok' := (fun k_ => ((fun k_ => (w.heap.size ≤ k_) ∧ some k_ ≠ (.slice Ao33 x9_1.length co33 : Value).ownBlock ∧ some k_ ≠ (.slice Ao34 x11_3.length co34 : Value).ownBlock ∧ k_ ≠ gb187)) k_ ∧ some k_ ≠ (u12 : Value).ownBlock)) (Kd.R_types (Kd.R_apart' (Kd.R_apart' (HO_15.out) (Kd.N_typed HO_9.out) (by decide)) (Kd.N_typed HO_12.out) (by decide)) BK187.out (by decide)) (fun k_ hk => ⟨⟨hk.1.1.1.1, ⟨hk.1.1.2, ⟨hk.1.1.1.2, hk.2⟩⟩⟩, hk.1.2⟩))))); (case aB => exact (by repeat (first | (with_reducible first | exact HB.out | apply below_alloc | apply pw_below_drewN | apply below_drew1 | refine below_set ?_ GE187.out) | exact HB.out))); (case aF => exact (fun k_ hk => ⟨(Nat.le_trans (below_size (by repeat (first | (with_reducible first | exact HB.out | apply below_alloc | apply pw_below_drewN | apply below_drew1 | refine below_set ?_ GE187.out) | exact HB.out))) hk), Kd.fresh' (Kd.N_lt (by exact zN HO_9)) k_ hk, Kd.fresh' (Kd.R_lt (by exact zR HO_11)) k_ hk, Kd.freshB (g := gb187) (o := .cells #[.int .i64 a0_0, .int .i64 a0_1, .slice A0_2 l0_2.length c0_2] 24 (0, 0)) (by exact zK BK187) k_ hk⟩)); (case aO => exact (by (with_reducible repeat (first | apply Kd.N_alloc | apply Kd.N_drewN | apply Kd.N_drew)); exact Kd.N_mono HO_12.out (fun _ hk => ⟨hk.1, ⟨hk.2.1, ⟨hk.2.2.1, hk.2.2.2.2⟩⟩⟩))); (case aS => exact (below_size (by repeat (first | (with_reducible first | exact HB.out | apply below_alloc | apply pw_below_drewN | apply below_drew1 | refine below_set ?_ GE187.out) | exact HB.out)))); (case aL => have := LMc60.out; omega); intro v211 w61 ho hb hg hat; rw [← Ny210.out] at ho; have n0_ := zA (Kd.N_afterv (ok := (fun k_ => (w.heap.size ≤ k_) ∧ some k_ ≠ (.slice Ao34 x11_3.length co34 : Value).ownBlock ∧ some k_ ≠ (.slice Ao62 x15_4.length co62 : Value).ownBlock ∧ k_ ≠ gb187)) (by (with_reducible repeat (first | apply Kd.N_alloc | apply Kd.N_drewN | apply Kd.N_drew)); exact Kd.N_mono HO_9.out (fun _ hk => ⟨⟨hk.1, ⟨hk.2.1, ⟨hk.2.2.2.1, hk.2.2.2.2⟩⟩⟩, hk.2.2.1⟩)) hg hat); have n1_ := zA (Kd.R_over' (by exact zR HO_11) (Kd.N_typed (by exact zN HO_12)) (by decide) hg); have n2_ := zA (blk_grown (g := gb187) (o := .cells #[.int .i64 a0_0, .int .i64 a0_1, .slice A0_2 l0_2.length c0_2] 24 (0, 0)) (by exact zK BK187) hg (Kd.N_ne HO_12.out BK187.out (by decide))); have n3_ := zA (hb); have n4_ := zA (ho); clear HO_9; clear HO_11; clear BK187; clear HB; clear HO_12; clear HO_15; have HO_9 := n0_; have HO_11 := n1_; have BK187 := n2_; have HB := n3_; have HO212 := n4_; clear n0_ n1_ n2_ n3_ n4_; clear ho hb hg hat))
                      (try simp only [← hl11_3])
                      go_roundg k4
                      case measure => have := HK1.out; have := HK2.out; have := HK3.out; have := HK4.out; omega
                      case rel => exact ⟨(x11_3), (y210), (wrap64 (x14_3 + 1)), (by first | rfl | (simp; done) | (simp [*]; done)), H', ⟨by have := HK1.out; have := HK2.out; have := HK3.out; have := HK4.out; omega⟩, ⟨by (try simp only [hl11_2]); (try simp only [hl11_3]); (with_reducible repeat (first | apply Kd.N_alloc | apply Kd.N_drewN | apply Kd.N_drew)); exact Kd.N_mono HO_9.out (fun _ hk => ⟨hk.1.1, ⟨hk.1.2.1, ⟨hk.2, hk.1.2.2.2⟩⟩⟩)⟩, ⟨by (try simp only [hl11_2]); (try simp only [hl11_3]); (with_reducible repeat (first | apply Kd.R_alloc | apply Kd.R_drewN | apply Kd.R_drew)); exact Kd.R_mono HO_11.out (fun _ hk => hk.1)⟩, ⟨by (try simp only [hl11_2]); (try simp only [hl11_3]); exact zN HO212⟩, ⟨by (try simp only [hl11_2]); (try simp only [hl11_3]); exact zK BK187⟩, ⟨by repeat (first | (with_reducible first | exact HB.out | apply below_alloc | apply pw_below_drewN | apply below_drew1 | refine below_set ?_ GE187.out) | exact HB.out)⟩⟩
                     ·
                      rw [if_neg c60] at H
                      exact absurd H (by simp)
                 ·
                  rw [if_neg c43] at H
                  exact absurd H (by simp)
                ·
                 rw [if_neg c42] at H
                 exact absurd H (by simp)
               ·
                rw [if_neg c41] at H
                have c41b0 : decide (x14_3 < (x9_1.length : Int)) = false := decide_eq_false c41
                clear c41
                have H' := zA H
                clear H
                go_wp2
                (try simp only [← hl11_2, ← hl11_3])
                go_roundg k3
                case measure => have := HK1.out; have := HK2.out; have := HK3.out; omega
                case rel => exact ⟨(x11_3), (x12_3), (wrap64 (x13_2 + 1)), (by first | rfl | (simp; done) | (simp [*]; done)), H', ⟨by have := HK1.out; have := HK2.out; have := HK3.out; omega⟩, ⟨by (try simp only [hl11_2]); (try simp only [hl11_3]); exact zN HO_9⟩, ⟨by (try simp only [hl11_2]); (try simp only [hl11_3]); exact zR HO_11⟩, ⟨by (try simp only [hl11_2]); (try simp only [hl11_3]); exact zN HO_12⟩, ⟨by (try simp only [hl11_2]); (try simp only [hl11_3]); exact zK BK187⟩, ⟨by repeat (first | (with_reducible first | exact HB.out | apply below_alloc | apply pw_below_drewN | apply below_drew1 | refine below_set ?_ GE187.out) | exact HB.out)⟩⟩
            ·
             rw [if_neg c38] at H
             have c38b0 : decide (x13_2 < t200) = false := decide_eq_false c38
             clear c38
             have H' := zA H
             clear H
             have hcz63_0 : wr.cell? ⟨gb187, 0, none⟩ = some (.int .i64 a0_0) := (blk_cell BK187.out 0).trans rfl
             have hcz63_1 : wr.cell? ⟨gb187, 1, none⟩ = some (.int .i64 a0_1) := (blk_cell BK187.out 1).trans rfl
             have hcz63_2 : wr.cell? ⟨gb187, 2, none⟩ = some (.slice A0_2 l0_2.length c0_2) := (blk_cell BK187.out 2).trans rfl
             have hfz63_0 := blk_frozen BK187.out 0
             have hfz63_1 := blk_frozen BK187.out 1
             have hfz63_2 := blk_frozen BK187.out 2
             go_wp2_with (first | ((with_reducible refine gate_callee (f := 10) rfl ?_); refine goesL_ (some 45) rfl rfl Try.func10 (by kernel_rfl) rfl #[.agg #[.int .i64 a0_0, .int .i64 a0_1, .slice A0_2 l0_2.length c0_2]] rfl (by (try simp only [List.map_toArray, List.map_cons, List.map_nil]); first | done | rfl | (simp only [List.length_drop, List.length_take]; rfl)) ?_; (with_reducible refine (codewrightref04_Order.calls k2 a0_0 a0_1 _ _ l0_2 t200 _ ?side1 ?side2 A37.out).mono ?_); (case side1 => exact zC ((Kd.C_below HR0_2.out HB.out))); (case side2 => exact HC0_2.out); rintro e w64 ⟨rfl, hb⟩; refine ⟨_, rfl, ?_⟩; replace HO_9 := zA (Kd.N_below (by exact zN HO_9) hb); replace HO_11 := zA (Kd.R_below (by exact zR HO_11) hb); replace HO_12 := zA (Kd.N_below (by exact zN HO_12) hb); replace BK187 := zA (blk_below (g := gb187) (o := .cells #[.int .i64 a0_0, .int .i64 a0_1, .slice A0_2 l0_2.length c0_2] 24 (0, 0)) (by exact zK BK187) hb); replace HB := zA (below_step (by repeat (first | (with_reducible first | exact HB.out | apply below_alloc | apply pw_below_drewN | apply below_drew1 | refine below_set ?_ GE187.out) | exact HB.out)) hb); (try clear hb)))
             (try simp only [← hl11_2])
             go_roundg k2
             case measure => have := HK1.out; have := HK2.out; omega
             case rel => exact ⟨(x12_2), (wrap64 (x10_1 + 1)), (by first | rfl | (simp; done) | (simp [*]; done)), H', ⟨by have := HK1.out; have := HK2.out; omega⟩, ⟨by (try simp only [hl11_2]); (with_reducible repeat (first | apply Kd.N_alloc | apply Kd.N_drewN | apply Kd.N_drew)); exact Kd.N_mono HO_12.out (fun _ hk => ⟨hk.1, hk.2.2.2⟩)⟩, ⟨by (try simp only [hl11_2]); exact zK BK187⟩, ⟨by repeat (first | (with_reducible first | exact HB.out | apply below_alloc | apply pw_below_drewN | apply below_drew1 | refine below_set ?_ GE187.out) | exact HB.out)⟩⟩
      ·
       rw [if_neg c14] at H
       exact absurd H (by simp)
     ·
      rw [if_neg c13] at H
      have c13b0 : decide (x10_1 < (l2.length : Int)) = false := decide_eq_false c13
      clear c13
      obtain rfl := Option.some.inj H
      go_wp2
      go_ret
      exact ⟨_, by first | rfl | (simp [errW_none, errW_some] <;> rfl) | (simp [*, errW_none, errW_some] <;> rfl), by (with_reducible repeat (first | apply Kd.N_alloc | apply Kd.N_drewN | apply Kd.N_drew)); exact Kd.N_mono HO_9.out (fun _ hk => hk.1), by repeat (first | (with_reducible first | exact HB.out | apply below_alloc | apply pw_below_drewN | apply below_drew1 | refine below_set ?_ GE187.out) | exact HB.out)⟩
  ·
   rw [if_neg c6] at H
   exact absurd H (by simp)
 ·
  rw [if_neg c5] at H
  exact absurd H (by simp)
end Go.Proofs.Ytpjpbhjpobdenaa.PBoundsLinear
