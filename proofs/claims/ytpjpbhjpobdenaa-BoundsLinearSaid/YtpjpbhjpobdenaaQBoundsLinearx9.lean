/- A part of the print of this row, cut down to what the row uses. -/
import Derived.Test.YtpjpbhjpobdenaaQBoundsLinearx0
import Derived.Test.YtpjpbhjpobdenaaQBoundsLinearx1
import Derived.Test.YtpjpbhjpobdenaaQBoundsLinearx3
import Derived.Test.YtpjpbhjpobdenaaQBoundsLinearx7
import Derived.Test.YtpjpbhjpobdenaaQBoundsLinearx8
import Derived.Test.YtpjpbhjpobdenaaQBoundsLinearWSq
-- printed by a scratch copy of the print, turned (wip/tools/turn_print.py)
namespace Go.Proofs.Ytpjpbhjpobdenaa.PBoundsLinear
open Go.RowKit Go.Proofs.YtpjpbhjpobdenaaW.PrintWords Go.Proofs.YtpjpbhjpobdenaaW.PrintLast Go.Proofs.YtpjpbhjpobdenaaW.PrintMore
attribute [local go_sem] max2_int min2_int max_two min_two max_three min_three max_four min_four   -- for this text's walks alone
set_option linter.unusedVariables false
set_option linter.unusedSimpArgs false
/-! ### bounds_Griesmer: function 13 -/
mutual
def bounds_Griesmer.j0 : Nat → Int → Int → Int → Bool → Option (Int × Int)
 | 0, _, _, _, _ => none
 | k + 1, x0, x1, x2, x30 => if x30 = true then (some (0, 6)) else (bounds_Griesmer.l0 k x0 x2 0 x1 0)
def bounds_Griesmer.l0 : Nat → Int → Int → Int → Int → Int → Option (Int × Int)
 | 0, _, _, _, _, _ => none
 | k + 1, x0, x2, x8, x31, x32 => if x32 < x31 then (if x0 = 0 then (none) else (bounds_Griesmer.l0 k x0 (wrap64 (Int.tdiv (wrap64 ((wrap64 (x2 + x0)) - 1)) x0)) (wrap64 (x8 + x2)) x31 (wrap64 (x32 + 1)))) else (some (x8, 0))
end
def bounds_Griesmer.f (k : Nat) (a0 : Int) (a1 : Int) (a2 : Int) : Option (Int × Int) := if a0 < 2 then (bounds_Griesmer.j0 k a0 a1 a2 true) else (if a0 > 256 then (bounds_Griesmer.j0 k a0 a1 a2 true) else (if a1 < 0 then (bounds_Griesmer.j0 k a0 a1 a2 true) else (if a1 > 64 then (bounds_Griesmer.j0 k a0 a1 a2 true) else (if a2 < 1 then (bounds_Griesmer.j0 k a0 a1 a2 true) else (bounds_Griesmer.j0 k a0 a1 a2 (decide (a2 > 1048576)))))))
set_option maxHeartbeats 8000000 in
set_option maxRecDepth 100000 in
theorem bounds_Griesmer.calls (k : Nat) (a0 : Int) (a1 : Int) (a2 : Int) (r1 : Int) (r2 : Int) (w : World) (h : bounds_Griesmer.f k a0 a1 a2 = some (r1, r2)) :
  Calls Try.prog 13 #[.int .i64 a0, .int .i64 a1, .int .i64 a2] w fun e w' => e = .returned (.tuple #[.int .i64 r1, .int .i64 r2]) ∧ Drawn0 w w' := by
 have H : (if a0 < 2 then (bounds_Griesmer.j0 k a0 a1 a2 true) else (if a0 > 256 then (bounds_Griesmer.j0 k a0 a1 a2 true) else (if a1 < 0 then (bounds_Griesmer.j0 k a0 a1 a2 true) else (if a1 > 64 then (bounds_Griesmer.j0 k a0 a1 a2 true) else (if a2 < 1 then (bounds_Griesmer.j0 k a0 a1 a2 true) else (bounds_Griesmer.j0 k a0 a1 a2 (decide (a2 > 1048576)))))))) = some (r1, r2) := h
 clear h
 have HC4 := zA H
 clear H
 go_enter Try.func13, Try.ntmps13
 go_upto_region 1 with (fail)
 go_cut [30] (fun v30 wc => ∃ (kq : Nat) (x30_3 : Bool), v30 = .bool x30_3 ∧ Aside0 (bounds_Griesmer.j0 kq a0 a1 a2 x30_3 = some (r1, r2)) ∧ Aside0 (kq ≤ k) ∧ Drawn0 w wc)
 case first =>
  have H := HC4.out
  clear HC4
  by_cases c5 : a0 < 2
  ·
   rw [if_pos c5] at H
   have c5b0 : decide (a0 < 2) = true := decide_eq_true c5
   clear c5
   (first | rw [c5b0] | (simp only [i64_w, i32_w]; rw [c5b0]) | rw [c5b1] | rw [c5b2] | skip)
   have H' := zA H
   clear H
   go_wp2
   go_meet
   case rel => exact ⟨_, (true), (by first | rfl | (simp; done) | (simp [*]; done)), H', ⟨by first | omega | exact Nat.le_refl _⟩, by repeat (first | exact Drawn0.refl _ | apply Drawn0.step)⟩
  ·
   rw [if_neg c5] at H
   have c5b0 : decide (a0 < 2) = false := decide_eq_false c5
   clear c5
   (first | rw [c5b0] | (simp only [i64_w, i32_w]; rw [c5b0]) | rw [c5b1] | rw [c5b2] | skip)
   by_cases c6 : a0 > 256
   ·
    rw [if_pos c6] at H
    have c6b0 : decide (256 < a0) = true := decide_eq_true c6
    clear c6
    have H' := zA H
    clear H
    go_wp2
    go_meet
    case rel => exact ⟨_, (true), (by first | rfl | (simp; done) | (simp [*]; done)), H', ⟨by first | omega | exact Nat.le_refl _⟩, by repeat (first | exact Drawn0.refl _ | apply Drawn0.step)⟩
   ·
    rw [if_neg c6] at H
    have c6b0 : decide (256 < a0) = false := decide_eq_false c6
    clear c6
    by_cases c7 : a1 < 0
    ·
     rw [if_pos c7] at H
     have c7b0 : decide (a1 < 0) = true := decide_eq_true c7
     clear c7
     have H' := zA H
     clear H
     go_wp2
     go_meet
     case rel => exact ⟨_, (true), (by first | rfl | (simp; done) | (simp [*]; done)), H', ⟨by first | omega | exact Nat.le_refl _⟩, by repeat (first | exact Drawn0.refl _ | apply Drawn0.step)⟩
    ·
     rw [if_neg c7] at H
     have c7b0 : decide (a1 < 0) = false := decide_eq_false c7
     clear c7
     by_cases c8 : a1 > 64
     ·
      rw [if_pos c8] at H
      have c8b0 : decide (64 < a1) = true := decide_eq_true c8
      clear c8
      have H' := zA H
      clear H
      go_wp2
      go_meet
      case rel => exact ⟨_, (true), (by first | rfl | (simp; done) | (simp [*]; done)), H', ⟨by first | omega | exact Nat.le_refl _⟩, by repeat (first | exact Drawn0.refl _ | apply Drawn0.step)⟩
     ·
      rw [if_neg c8] at H
      have c8b0 : decide (64 < a1) = false := decide_eq_false c8
      clear c8
      by_cases c9 : a2 < 1
      ·
       rw [if_pos c9] at H
       have c9b0 : decide (a2 < 1) = true := decide_eq_true c9
       clear c9
       have H' := zA H
       clear H
       go_wp2
       go_meet
       case rel => exact ⟨_, (true), (by first | rfl | (simp; done) | (simp [*]; done)), H', ⟨by first | omega | exact Nat.le_refl _⟩, by repeat (first | exact Drawn0.refl _ | apply Drawn0.step)⟩
      ·
       rw [if_neg c9] at H
       have c9b0 : decide (a2 < 1) = false := decide_eq_false c9
       clear c9
       have H' := zA H
       clear H
       go_wp2
       go_meet
       case rel => exact ⟨_, (decide (a2 > 1048576)), (by first | rfl | (simp; done) | (simp [*]; done)), H', ⟨by first | omega | exact Nat.le_refl _⟩, by repeat (first | exact Drawn0.refl _ | apply Drawn0.step)⟩
 case rest =>
  clear HC4
  try clear c1
  try clear p2
  try clear c5
  try clear c5b0
  try clear c6
  try clear c6b0
  try clear c7
  try clear c7b0
  try clear c8
  try clear c8b0
  try clear c9
  try clear c9b0
  obtain ⟨kq, x30_3, rfl, HA, HJ3, ⟨mc3, rfl⟩⟩ := hcut
  cases kq with
  | zero => exact absurd HA.out (by simp [bounds_Griesmer.j0])
  | succ kj3 =>
   have H := HA.out
   clear HA
   simp only [bounds_Griesmer.j0] at H
   by_cases c10 : x30_3 = true
   ·
    subst c10
    have H1 : (some (0, 6)) = some (r1, r2) := by rw [if_pos rfl] at H; exact H
    clear H
    have H := H1
    clear H1
    simp only [Option.some.injEq, Prod.mk.injEq] at H
    obtain ⟨rfl, rfl⟩ := H
    go_wp2
    go_ret2
    exact ⟨by first | rfl | (simp; done) | (simp [*]; done), by repeat (first | exact Drawn0.refl _ | apply Drawn0.step)⟩
   ·
    replace c10 := Bool.eq_false_iff.mpr c10
    subst c10
    have H1 : (bounds_Griesmer.l0 kj3 a0 a2 0 a1 0) = some (r1, r2) := by rw [if_neg (show ¬ (false = true) by decide)] at H; exact H
    clear H
    have H := H1
    clear H1
    have H' := zA H
    clear H
    go_wp2
    go_loopg [2, 8, 32] kj3 (fun kq v2 v8 v32 w' => ∃ (x2_2 : Int) (x8_2 : Int) (x32_2 : Int), v2 = .int .i64 x2_2 ∧ v8 = .int .i64 x8_2 ∧ v32 = .int .i64 x32_2 ∧ Aside0 (bounds_Griesmer.l0 kq a0 x2_2 x8_2 a1 x32_2 = some (r1, r2)) ∧ Aside0 (kq ≤ kj3) ∧ Drawn0 w w')
    case atStart => exact ⟨(a2), (0), (0), (by first | rfl | (simp; done) | (simp [*]; done)), (by first | rfl | (simp; done) | (simp [*]; done)), (by first | rfl | (simp; done) | (simp [*]; done)), H', ⟨Nat.le_refl _⟩, by repeat (first | exact Drawn0.refl _ | apply Drawn0.step)⟩
    case round =>
     clear H'
     try clear c1
     try clear p2
     try clear c3
     try clear c5
     try clear c5b0
     try clear c6
     try clear c6b0
     try clear c7
     try clear c7b0
     try clear c8
     try clear c8b0
     try clear c9
     try clear c9b0
     try clear c10
     try clear p2
     obtain ⟨x2_2, x8_2, x32_2, rfl, rfl, rfl, HA, HK2, ⟨m2, rfl⟩⟩ := hrel
     cases gk with
     | zero => exact absurd HA.out (by simp [bounds_Griesmer.l0])
     | succ k2 =>
      have H := HA.out
      clear HA
      simp only [bounds_Griesmer.l0] at H
      by_cases c11 : x32_2 < a1
      ·
       rw [if_pos c11] at H
       have c11b0 : decide (x32_2 < a1) = true := decide_eq_true c11
       clear c11
       by_cases c12 : a0 = 0
       ·
        rw [if_pos c12] at H
        exact absurd H (by simp)
       ·
        rw [if_neg c12] at H
        have c12b0 : (a0 == 0) = false := beq_eq_false_iff_ne.mpr c12
        have c12b1 : (a0 != 0) = true := bne_iff_ne.mpr c12
        have H' := zA H
        clear H
        go_wp2
        go_roundg k2
        case measure => have := HJ3.out; have := HK2.out; omega
        case rel => exact ⟨(wrap64 (Int.tdiv (wrap64 ((wrap64 (x2_2 + a0)) - 1)) a0)), (wrap64 (x8_2 + x2_2)), (wrap64 (x32_2 + 1)), (by first | rfl | (simp; done) | (simp [*]; done)), (by first | rfl | (simp; done) | (simp [*]; done)), (by first | rfl | (simp; done) | (simp [*]; done)), H', ⟨by have := HJ3.out; have := HK2.out; omega⟩, by repeat (first | exact Drawn0.refl _ | apply Drawn0.step)⟩
      ·
       rw [if_neg c11] at H
       have c11b0 : decide (x32_2 < a1) = false := decide_eq_false c11
       clear c11
       simp only [Option.some.injEq, Prod.mk.injEq] at H
       obtain ⟨rfl, rfl⟩ := H
       go_wp2
       go_ret2
       exact ⟨by first | rfl | (simp; done) | (simp [*]; done), by repeat (first | exact Drawn0.refl _ | apply Drawn0.step)⟩
/-! ### codewrightlaw34_BoundsLinear: function 3 -/
mutual
def codewrightlaw34_BoundsLinear.j0 : Nat → List (List Int) → Int → Bool → Int → Int → List Int → Option (Bool)
 | 0, _, _, _, _, _, _ => none
 | k + 1, x2, x7, x25, x257000, x257001, x257002 => if x25 = true then (some true) else ((codewrightref24_Span.f k x257000 x257001 x257002 x7 x2 4096).bind fun t258 => (if (t258.length : Int) < 2 then (some true) else (codewrightlaw34_BoundsLinear.l0 k x7 t258 0 1 x257000 x257001 x257002)))
def codewrightlaw34_BoundsLinear.l0 : Nat → Int → List (List Int) → Int → Int → Int → Int → List Int → Option (Bool)
 | 0, _, _, _, _, _, _, _ => none
 | k + 1, x7, x8, x9, x10, x257000, x257001, x257002 => if x10 < (x8.length : Int) then ((codewrightref04_Order.f k x257000 x257001 x257002).bind fun t261 => (codewrightlaw34_BoundsLinear.l0 k x7 x8 (wrap64 (x9 + 1)) (wrap64 (x10 * t261)) x257000 x257001 x257002)) else ((codewrightref24_Weights.f k x7 x8).bind fun t262 => ((codewrightref24_Least.f k t262).bind fun t265 => ((codewrightref04_Order.f k x257000 x257001 x257002).bind fun t266 => ((bounds_Griesmer.f k t266 x9 t265).bind fun bt267 => (if bt267.2 = 0 then (if bt267.1 ≥ t265 then (some (decide (bt267.1 ≤ x7))) else (some false)) else (some false))))))
end
def codewrightlaw34_BoundsLinear.f (k : Nat) (a0_0 : Int) (a0_1 : Int) (l0_2 : List Int) (a1 : Int) (l2 : List (List Int)) : Option (Bool) := (codewrightref04_Check.f k a0_0 a0_1 l0_2).bind fun t257 => (if t257 = 0 then (codewrightlaw34_BoundsLinear.j0 k l2 (wrap64 ((Int.tmod (wrap64 (a1)) 12) + 1)) (decide ((l2.length : Int) > 12)) a0_0 a0_1 l0_2) else (codewrightlaw34_BoundsLinear.j0 k l2 (wrap64 ((Int.tmod (wrap64 (a1)) 12) + 1)) true a0_0 a0_1 l0_2))
set_option maxHeartbeats 8000000 in
set_option maxRecDepth 100000 in
theorem codewrightlaw34_BoundsLinear.calls (k : Nat) (a0_0 : Int) (a0_1 : Int) (A0_2 : Option Addr) (c0_2 : Nat) (l0_2 : List Int) (a1 : Int) (A2 : Option Addr) (c2 : Nat) (l2 : List (List Int)) (r : Bool) (w : World) (hr0_2 : Kd.C (Kd.int .i64) w A0_2 l0_2.length l0_2) (hc0_2 : l0_2.length ≤ c0_2) (hr2 : Kd.C (Kd.slice 3 (Kd.int .i64)) w A2 l2.length l2) (hc2 : l2.length ≤ c2) (h : codewrightlaw34_BoundsLinear.f k a0_0 a0_1 l0_2 a1 l2 = some r) :
  Calls Try.prog 3 #[.agg #[.int .i64 a0_0, .int .i64 a0_1, .slice A0_2 l0_2.length c0_2], .int .u8 a1, .slice A2 l2.length c2] w fun e w' => e = .returned (.bool r) ∧ Below w.heap.size w w' := by
 have hu24 := Try.underlying24
 have HR0_2 := zA hr0_2
 have HC0_2 := zA hc0_2
 clear hr0_2 hc0_2
 have HR2 := zA hr2
 have HC2 := zA hc2
 clear hr2 hc2
 have HB := zA (Below.refl w.heap.size w)
 have H : ((codewrightref04_Check.f k a0_0 a0_1 l0_2).bind fun t257 => (if t257 = 0 then (codewrightlaw34_BoundsLinear.j0 k l2 (wrap64 ((Int.tmod (wrap64 (a1)) 12) + 1)) (decide ((l2.length : Int) > 12)) a0_0 a0_1 l0_2) else (codewrightlaw34_BoundsLinear.j0 k l2 (wrap64 ((Int.tmod (wrap64 (a1)) 12) + 1)) true a0_0 a0_1 l0_2))) = some r := h
 clear h
 have HC4 := zA H
 clear H
 go_enter Try.func3, Try.ntmps3
 go_upto_region 2 with (first | ((with_reducible refine gate_dst (N := 3) rfl ?_); (try (refine gate_guard (by rfl) ?_; dsimp only)); refine box_event ?hg (N := 3) ?hd (cs := #[.int .i64 a0_0, .int .i64 a0_1, .slice A0_2 l0_2.length c0_2]) (t := 24) ?hr ?_; (case hd => rfl); (case hg => rfl); (case hr => first | (go_simp; done) | (go_simp; rfl)); intro gb256 hg w5 hbox hb; have BK256 := zA (hbox); have GW256 := zA ((by rw [hg]; exact (below_size (by exact zB HB)) : w.heap.size ≤ gb256)); have GE256 := zA ((by rw [hg]; exact (below_size (by exact zB HB)) : w.heap.size ≤ gb256)); replace HB := zA (below_step (by exact zB HB) hb); clear hb hbox hg))
 (try simp only [Act.put, List.setIfInBounds_toArray, List.set_cons_zero, List.set_cons_succ])
 go_cut [25] (fun v25 wc => ∃ (kq : Nat) (x25_3 : Bool), v25 = .bool x25_3 ∧ Aside0 (codewrightlaw34_BoundsLinear.j0 kq l2 (wrap64 ((Int.tmod (wrap64 (a1)) 12) + 1)) x25_3 a0_0 a0_1 l0_2 = some r) ∧ Aside0 (kq ≤ k) ∧ Aside0 (wc.heap[gb256]? = some (.cells #[.int .i64 a0_0, .int .i64 a0_1, (.slice A0_2 l0_2.length c0_2)] 24 (0, 0))) ∧ Aside0 (Below w.heap.size w wc))
 case first =>
  have H := HC4.out
  clear HC4
  replace H := Option.bind_eq_some_iff.mp H
  obtain ⟨t257, A60, H⟩ := H
  replace H : (if t257 = 0 then (codewrightlaw34_BoundsLinear.j0 k l2 (wrap64 ((Int.tmod (wrap64 (a1)) 12) + 1)) (decide ((l2.length : Int) > 12)) a0_0 a0_1 l0_2) else (codewrightlaw34_BoundsLinear.j0 k l2 (wrap64 ((Int.tmod (wrap64 (a1)) 12) + 1)) true a0_0 a0_1 l0_2)) = some r := H
  have A6 := zA A60
  clear A60
  by_cases c7 : t257 = 0
  ·
   rw [if_pos c7] at H
   have c7b0 : (t257 == 0) = true := beq_iff_eq.mpr c7
   have c7b1 : (t257 != 0) = false := bne_eq_false_iff_eq.mpr c7
   clear c7
   (first | rw [c7b0] | (simp only [i64_w, i32_w]; rw [c7b0]) | rw [c7b1] | rw [c7b2] | skip)
   have H' := zA H
   clear H
   have hcz8_0 : w5.cell? ⟨gb256, 0, none⟩ = some (.int .i64 a0_0) := (blk_cell BK256.out 0).trans rfl
   have hcz8_1 : w5.cell? ⟨gb256, 1, none⟩ = some (.int .i64 a0_1) := (blk_cell BK256.out 1).trans rfl
   have hcz8_2 : w5.cell? ⟨gb256, 2, none⟩ = some (.slice A0_2 l0_2.length c0_2) := (blk_cell BK256.out 2).trans rfl
   have hfz8_0 := blk_frozen BK256.out 0
   have hfz8_1 := blk_frozen BK256.out 1
   have hfz8_2 := blk_frozen BK256.out 2
   go_wp2_with (first | ((with_reducible refine gate_callee (f := 8) rfl ?_); refine goesL_ (some 19) rfl rfl Try.func8 (by kernel_rfl) rfl #[.agg #[.int .i64 a0_0, .int .i64 a0_1, .slice A0_2 l0_2.length c0_2]] rfl (by (try simp only [List.map_toArray, List.map_cons, List.map_nil]); first | done | rfl | (simp only [List.length_drop, List.length_take]; rfl)) ?_; (with_reducible refine (codewrightref04_Check.calls k a0_0 a0_1 _ _ l0_2 t257 _ ?side1 ?side2 A6.out).mono ?_); (case side1 => exact zC ((Kd.C_below HR0_2.out HB.out))); (case side2 => exact HC0_2.out); rintro e w9 ⟨rfl, hb⟩; refine ⟨_, rfl, ?_⟩; replace BK256 := zA (blk_below (g := gb256) (o := .cells #[.int .i64 a0_0, .int .i64 a0_1, .slice A0_2 l0_2.length c0_2] 24 (0, 0)) (by exact zK BK256) hb); replace HB := zA (below_step (by repeat (first | (with_reducible first | exact HB.out | apply below_alloc | apply pw_below_drewN | apply below_drew1 | refine below_set ?_ GE256.out) | exact HB.out)) hb); (try clear hb)))
   go_meet
   case rel => exact ⟨_, (decide ((l2.length : Int) > 12)), (by first | rfl | (simp; done) | (simp [*]; done)), H', ⟨by first | omega | exact Nat.le_refl _⟩, ⟨by exact zK BK256⟩, ⟨by repeat (first | (with_reducible first | exact HB.out | apply below_alloc | apply pw_below_drewN | apply below_drew1 | refine below_set ?_ GE256.out) | exact HB.out)⟩⟩
  ·
   rw [if_neg c7] at H
   have c7b0 : (t257 == 0) = false := beq_eq_false_iff_ne.mpr c7
   have c7b1 : (t257 != 0) = true := bne_iff_ne.mpr c7
   (first | rw [c7b0] | (simp only [i64_w, i32_w]; rw [c7b0]) | rw [c7b1] | rw [c7b2] | skip)
   have H' := zA H
   clear H
   have hcz10_0 : w5.cell? ⟨gb256, 0, none⟩ = some (.int .i64 a0_0) := (blk_cell BK256.out 0).trans rfl
   have hcz10_1 : w5.cell? ⟨gb256, 1, none⟩ = some (.int .i64 a0_1) := (blk_cell BK256.out 1).trans rfl
   have hcz10_2 : w5.cell? ⟨gb256, 2, none⟩ = some (.slice A0_2 l0_2.length c0_2) := (blk_cell BK256.out 2).trans rfl
   have hfz10_0 := blk_frozen BK256.out 0
   have hfz10_1 := blk_frozen BK256.out 1
   have hfz10_2 := blk_frozen BK256.out 2
   go_wp2_with (first | ((with_reducible refine gate_callee (f := 8) rfl ?_); refine goesL_ (some 19) rfl rfl Try.func8 (by kernel_rfl) rfl #[.agg #[.int .i64 a0_0, .int .i64 a0_1, .slice A0_2 l0_2.length c0_2]] rfl (by (try simp only [List.map_toArray, List.map_cons, List.map_nil]); first | done | rfl | (simp only [List.length_drop, List.length_take]; rfl)) ?_; (with_reducible refine (codewrightref04_Check.calls k a0_0 a0_1 _ _ l0_2 t257 _ ?side1 ?side2 A6.out).mono ?_); (case side1 => exact zC ((Kd.C_below HR0_2.out HB.out))); (case side2 => exact HC0_2.out); rintro e w11 ⟨rfl, hb⟩; refine ⟨_, rfl, ?_⟩; replace BK256 := zA (blk_below (g := gb256) (o := .cells #[.int .i64 a0_0, .int .i64 a0_1, .slice A0_2 l0_2.length c0_2] 24 (0, 0)) (by exact zK BK256) hb); replace HB := zA (below_step (by repeat (first | (with_reducible first | exact HB.out | apply below_alloc | apply pw_below_drewN | apply below_drew1 | refine below_set ?_ GE256.out) | exact HB.out)) hb); (try clear hb)))
   go_meet
   case rel => exact ⟨_, (true), (by first | rfl | (simp; done) | (simp [*]; done)), H', ⟨by first | omega | exact Nat.le_refl _⟩, ⟨by exact zK BK256⟩, ⟨by repeat (first | (with_reducible first | exact HB.out | apply below_alloc | apply pw_below_drewN | apply below_drew1 | refine below_set ?_ GE256.out) | exact HB.out)⟩⟩
 case rest =>
  clear HC4
  try clear c2
  try clear p2
  try clear c3
  try clear p6
  try clear c7
  try clear c7b0
  try clear c7b1
  try clear c8
  try clear hcz10_0
  try clear hcz10_1
  try clear hcz10_2
  try clear hcz8_0
  try clear hcz8_1
  try clear hcz8_2
  try clear hfz10_0
  try clear hfz10_1
  try clear hfz10_2
  try clear hfz8_0
  try clear hfz8_1
  try clear hfz8_2
  obtain ⟨kq, x25_3, rfl, HA, HJ3, BK256, HB⟩ := hcut
  cases kq with
  | zero => exact absurd HA.out (by simp [codewrightlaw34_BoundsLinear.j0])
  | succ kj3 =>
   have H := HA.out
   clear HA
   simp only [codewrightlaw34_BoundsLinear.j0] at H
   by_cases c12 : x25_3 = true
   ·
    subst c12
    have H1 : (some true) = some r := by rw [if_pos rfl] at H; exact H
    clear H
    have H := H1
    clear H1
    obtain rfl := Option.some.inj H
    go_wp2
    go_ret
    exact ⟨by first | rfl | (simp [errW_none, errW_some] <;> rfl) | (simp [*, errW_none, errW_some] <;> rfl), by repeat (first | (with_reducible first | exact HB.out | apply below_alloc | apply pw_below_drewN | apply below_drew1 | refine below_set ?_ GE256.out) | exact HB.out)⟩
   ·
    replace c12 := Bool.eq_false_iff.mpr c12
    subst c12
    have H1 : ((codewrightref24_Span.f kj3 a0_0 a0_1 l0_2 (wrap64 ((Int.tmod (wrap64 (a1)) 12) + 1)) l2 4096).bind fun t258 => (if (t258.length : Int) < 2 then (some true) else (codewrightlaw34_BoundsLinear.l0 kj3 (wrap64 ((Int.tmod (wrap64 (a1)) 12) + 1)) t258 0 1 a0_0 a0_1 l0_2))) = some r := by rw [if_neg (show ¬ (false = true) by decide)] at H; exact H
    clear H
    have H := H1
    clear H1
    replace H := Option.bind_eq_some_iff.mp H
    obtain ⟨t258, A130, H⟩ := H
    replace H : (if (t258.length : Int) < 2 then (some true) else (codewrightlaw34_BoundsLinear.l0 kj3 (wrap64 ((Int.tmod (wrap64 (a1)) 12) + 1)) t258 0 1 a0_0 a0_1 l0_2)) = some r := H
    have A13 := zA A130
    clear A130
    by_cases c14 : (t258.length : Int) < 2
    ·
     rw [if_pos c14] at H
     have c14b0 : decide ((t258.length : Int) < 2) = true := decide_eq_true c14
     have c14b1 : decide (t258.length < 2) = true := decide_eq_true (by omega)
     clear c14
     obtain rfl := Option.some.inj H
     have hcz15_0 : wc.cell? ⟨gb256, 0, none⟩ = some (.int .i64 a0_0) := (blk_cell BK256.out 0).trans rfl
     have hcz15_1 : wc.cell? ⟨gb256, 1, none⟩ = some (.int .i64 a0_1) := (blk_cell BK256.out 1).trans rfl
     have hcz15_2 : wc.cell? ⟨gb256, 2, none⟩ = some (.slice A0_2 l0_2.length c0_2) := (blk_cell BK256.out 2).trans rfl
     have hfz15_0 := blk_frozen BK256.out 0
     have hfz15_1 := blk_frozen BK256.out 1
     have hfz15_2 := blk_frozen BK256.out 2
     go_wp2_with (first | ((with_reducible refine gate_callee (f := 9) rfl ?_); refine goesL_ (some 29) rfl rfl Try.func9 (by kernel_rfl) rfl #[.agg #[.int .i64 a0_0, .int .i64 a0_1, .slice A0_2 l0_2.length c0_2], .int .i64 (wrap64 ((Int.tmod (wrap64 (a1)) 12) + 1)), .slice A2 l2.length c2, .int .i64 4096] rfl (by (try simp only [List.map_toArray, List.map_cons, List.map_nil]); first | done | rfl | (simp only [List.length_drop, List.length_take]; rfl)) ?_; (with_reducible refine (codewrightref24_Span.calls kj3 a0_0 a0_1 _ _ l0_2 (wrap64 ((Int.tmod (wrap64 (a1)) 12) + 1)) _ _ l2 4096 t258 _ ?side1 ?side2 ?side3 ?side4 A13.out).mono ?_); (case side1 => exact zC ((Kd.C_below HR0_2.out HB.out))); (case side2 => exact HC0_2.out); (case side3 => exact zC ((Kd.C_below HR2.out HB.out))); (case side4 => exact HC2.out); rintro e w16 ⟨v259, rfl, ho0, hb⟩; refine ⟨_, rfl, ?_⟩; have HO260 := zA (Kd.N_lower (Kd.N_mono (ok' := fun k_ => k_ ≠ gb256) ho0 (fun k_ hk_ => (Kd.freshB (g := gb256) (o := .cells #[.int .i64 a0_0, .int .i64 a0_1, .slice A0_2 l0_2.length c0_2] 24 (0, 0)) (by exact zK BK256) k_ hk_))) (below_size (by repeat (first | (with_reducible first | exact HB.out | apply below_alloc | apply pw_below_drewN | apply below_drew1 | refine below_set ?_ GE256.out) | exact HB.out)))); replace BK256 := zA (blk_below (g := gb256) (o := .cells #[.int .i64 a0_0, .int .i64 a0_1, .slice A0_2 l0_2.length c0_2] 24 (0, 0)) (by exact zK BK256) hb); replace HB := zA (below_step (by repeat (first | (with_reducible first | exact HB.out | apply below_alloc | apply pw_below_drewN | apply below_drew1 | refine below_set ?_ GE256.out) | exact HB.out)) hb); (try clear hb ho0); obtain ⟨Ao17, co17, eo17⟩ := Kd.N_slice HO260.out; subst eo17))
     go_ret
     exact ⟨by first | rfl | (simp [errW_none, errW_some] <;> rfl) | (simp [*, errW_none, errW_some] <;> rfl), by repeat (first | (with_reducible first | exact HB.out | apply below_alloc | apply pw_below_drewN | apply below_drew1 | refine below_set ?_ GE256.out) | exact HB.out)⟩
    ·
     rw [if_neg c14] at H
     have c14b0 : decide ((t258.length : Int) < 2) = false := decide_eq_false c14
     have c14b1 : decide (t258.length < 2) = false := decide_eq_false (by omega)
     clear c14
     have H' := zA H
     clear H
     have hcz18_0 : wc.cell? ⟨gb256, 0, none⟩ = some (.int .i64 a0_0) := (blk_cell BK256.out 0).trans rfl
     have hcz18_1 : wc.cell? ⟨gb256, 1, none⟩ = some (.int .i64 a0_1) := (blk_cell BK256.out 1).trans rfl
     have hcz18_2 : wc.cell? ⟨gb256, 2, none⟩ = some (.slice A0_2 l0_2.length c0_2) := (blk_cell BK256.out 2).trans rfl
     have hfz18_0 := blk_frozen BK256.out 0
     have hfz18_1 := blk_frozen BK256.out 1
     have hfz18_2 := blk_frozen BK256.out 2
     go_wp2_with (first | ((with_reducible refine gate_callee (f := 9) rfl ?_); refine goesL_ (some 29) rfl rfl Try.func9 (by kernel_rfl) rfl #[.agg #[.int .i64 a0_0, .int .i64 a0_1, .slice A0_2 l0_2.length c0_2], .int .i64 (wrap64 ((Int.tmod (wrap64 (a1)) 12) + 1)), .slice A2 l2.length c2, .int .i64 4096] rfl (by (try simp only [List.map_toArray, List.map_cons, List.map_nil]); first | done | rfl | (simp only [List.length_drop, List.length_take]; rfl)) ?_; (with_reducible refine (codewrightref24_Span.calls kj3 a0_0 a0_1 _ _ l0_2 (wrap64 ((Int.tmod (wrap64 (a1)) 12) + 1)) _ _ l2 4096 t258 _ ?side1 ?side2 ?side3 ?side4 A13.out).mono ?_); (case side1 => exact zC ((Kd.C_below HR0_2.out HB.out))); (case side2 => exact HC0_2.out); (case side3 => exact zC ((Kd.C_below HR2.out HB.out))); (case side4 => exact HC2.out); rintro e w19 ⟨v259, rfl, ho0, hb⟩; refine ⟨_, rfl, ?_⟩; have HO260 := zA (Kd.N_lower (Kd.N_mono (ok' := fun k_ => k_ ≠ gb256) ho0 (fun k_ hk_ => (Kd.freshB (g := gb256) (o := .cells #[.int .i64 a0_0, .int .i64 a0_1, .slice A0_2 l0_2.length c0_2] 24 (0, 0)) (by exact zK BK256) k_ hk_))) (below_size (by repeat (first | (with_reducible first | exact HB.out | apply below_alloc | apply pw_below_drewN | apply below_drew1 | refine below_set ?_ GE256.out) | exact HB.out)))); replace BK256 := zA (blk_below (g := gb256) (o := .cells #[.int .i64 a0_0, .int .i64 a0_1, .slice A0_2 l0_2.length c0_2] 24 (0, 0)) (by exact zK BK256) hb); replace HB := zA (below_step (by repeat (first | (with_reducible first | exact HB.out | apply below_alloc | apply pw_below_drewN | apply below_drew1 | refine below_set ?_ GE256.out) | exact HB.out)) hb); (try clear hb ho0); obtain ⟨Ao20, co20, eo20⟩ := Kd.N_slice HO260.out; subst eo20))
     go_loopg [9, 10] kj3 (fun kq v9 v10 w' => ∃ (x9_2 : Int) (x10_2 : Int), v9 = .int .i64 x9_2 ∧ v10 = .int .i64 x10_2 ∧ Aside0 (codewrightlaw34_BoundsLinear.l0 kq (wrap64 ((Int.tmod (wrap64 (a1)) 12) + 1)) t258 x9_2 x10_2 a0_0 a0_1 l0_2 = some r) ∧ Aside0 (kq ≤ kj3) ∧ Aside0 (Kd.N (Kd.slice 3 (Kd.int .i64)) 22 w' w.heap.size (fun k_ => k_ ≠ gb256) (.slice Ao20 t258.length co20) t258) ∧ Aside0 (w'.heap[gb256]? = some (.cells #[.int .i64 a0_0, .int .i64 a0_1, (.slice A0_2 l0_2.length c0_2)] 24 (0, 0))) ∧ Aside0 (Below w.heap.size w w'))
     case atStart => exact ⟨(0), (1), (by first | rfl | (simp; done) | (simp [*]; done)), (by first | rfl | (simp; done) | (simp [*]; done)), H', ⟨Nat.le_refl _⟩, ⟨by exact zN HO260⟩, ⟨by exact zK BK256⟩, ⟨by repeat (first | (with_reducible first | exact HB.out | apply below_alloc | apply pw_below_drewN | apply below_drew1 | refine below_set ?_ GE256.out) | exact HB.out)⟩⟩
     case round =>
      clear H'
      try clear c1
      try clear c2
      try clear p2
      try clear c3
      try clear p6
      try clear c7
      try clear c7b0
      try clear c7b1
      try clear c8
      try clear c9
      try clear c12
      try clear c14
      try clear c14b0
      try clear c14b1
      try clear hcz10_0
      try clear hcz10_1
      try clear hcz10_2
      try clear hcz15_0
      try clear hcz15_1
      try clear hcz15_2
      try clear hcz18_0
      try clear hcz18_1
      try clear hcz18_2
      try clear hcz8_0
      try clear hcz8_1
      try clear hcz8_2
      try clear hfz10_0
      try clear hfz10_1
      try clear hfz10_2
      try clear hfz15_0
      try clear hfz15_1
      try clear hfz15_2
      try clear hfz18_0
      try clear hfz18_1
      try clear hfz18_2
      try clear hfz8_0
      try clear hfz8_1
      try clear hfz8_2
      try clear p2
      try clear p6
      obtain ⟨x9_2, x10_2, rfl, rfl, HA, HK2, HO_8, BK256, HB⟩ := hrel
      cases gk with
      | zero => exact absurd HA.out (by simp [codewrightlaw34_BoundsLinear.l0])
      | succ k2 =>
       have H := HA.out
       clear HA
       simp only [codewrightlaw34_BoundsLinear.l0] at H
       by_cases c21 : x10_2 < (t258.length : Int)
       ·
        rw [if_pos c21] at H
        have c21b0 : decide (x10_2 < (t258.length : Int)) = true := decide_eq_true c21
        clear c21
        replace H := Option.bind_eq_some_iff.mp H
        obtain ⟨t261, A220, H⟩ := H
        replace H : (codewrightlaw34_BoundsLinear.l0 k2 (wrap64 ((Int.tmod (wrap64 (a1)) 12) + 1)) t258 (wrap64 (x9_2 + 1)) (wrap64 (x10_2 * t261)) a0_0 a0_1 l0_2) = some r := H
        have A22 := zA A220
        clear A220
        have H' := zA H
        clear H
        have hcz23_0 : wr.cell? ⟨gb256, 0, none⟩ = some (.int .i64 a0_0) := (blk_cell BK256.out 0).trans rfl
        have hcz23_1 : wr.cell? ⟨gb256, 1, none⟩ = some (.int .i64 a0_1) := (blk_cell BK256.out 1).trans rfl
        have hcz23_2 : wr.cell? ⟨gb256, 2, none⟩ = some (.slice A0_2 l0_2.length c0_2) := (blk_cell BK256.out 2).trans rfl
        have hfz23_0 := blk_frozen BK256.out 0
        have hfz23_1 := blk_frozen BK256.out 1
        have hfz23_2 := blk_frozen BK256.out 2
        go_wp2_with (first | ((with_reducible refine gate_callee (f := 10) rfl ?_); refine goesL_ (some 39) rfl rfl Try.func10 (by kernel_rfl) rfl #[.agg #[.int .i64 a0_0, .int .i64 a0_1, .slice A0_2 l0_2.length c0_2]] rfl (by (try simp only [List.map_toArray, List.map_cons, List.map_nil]); first | done | rfl | (simp only [List.length_drop, List.length_take]; rfl)) ?_; (with_reducible refine (codewrightref04_Order.calls k2 a0_0 a0_1 _ _ l0_2 t261 _ ?side1 ?side2 A22.out).mono ?_); (case side1 => exact zC ((Kd.C_below HR0_2.out HB.out))); (case side2 => exact HC0_2.out); rintro e w24 ⟨rfl, hb⟩; refine ⟨_, rfl, ?_⟩; replace HO_8 := zA (Kd.N_below (by exact zN HO_8) hb); replace BK256 := zA (blk_below (g := gb256) (o := .cells #[.int .i64 a0_0, .int .i64 a0_1, .slice A0_2 l0_2.length c0_2] 24 (0, 0)) (by exact zK BK256) hb); replace HB := zA (below_step (by repeat (first | (with_reducible first | exact HB.out | apply below_alloc | apply pw_below_drewN | apply below_drew1 | refine below_set ?_ GE256.out) | exact HB.out)) hb); (try clear hb)))
        go_roundg k2
        case measure => have := HJ3.out; have := HK2.out; omega
        case rel => exact ⟨(wrap64 (x9_2 + 1)), (wrap64 (x10_2 * t261)), (by first | rfl | (simp; done) | (simp [*]; done)), (by first | rfl | (simp; done) | (simp [*]; done)), H', ⟨by have := HJ3.out; have := HK2.out; omega⟩, ⟨by exact zN HO_8⟩, ⟨by exact zK BK256⟩, ⟨by repeat (first | (with_reducible first | exact HB.out | apply below_alloc | apply pw_below_drewN | apply below_drew1 | refine below_set ?_ GE256.out) | exact HB.out)⟩⟩
       ·
        rw [if_neg c21] at H
        have c21b0 : decide (x10_2 < (t258.length : Int)) = false := decide_eq_false c21
        clear c21
        replace H := Option.bind_eq_some_iff.mp H
        obtain ⟨t262, A250, H⟩ := H
        replace H : ((codewrightref24_Least.f k2 t262).bind fun t265 => ((codewrightref04_Order.f k2 a0_0 a0_1 l0_2).bind fun t266 => ((bounds_Griesmer.f k2 t266 x9_2 t265).bind fun bt267 => (if bt267.2 = 0 then (if bt267.1 ≥ t265 then (some (decide (bt267.1 ≤ (wrap64 ((Int.tmod (wrap64 (a1)) 12) + 1))))) else (some false)) else (some false))))) = some r := H
        have A25 := zA A250
        clear A250
        replace H := Option.bind_eq_some_iff.mp H
        obtain ⟨t265, A260, H⟩ := H
        replace H : ((codewrightref04_Order.f k2 a0_0 a0_1 l0_2).bind fun t266 => ((bounds_Griesmer.f k2 t266 x9_2 t265).bind fun bt267 => (if bt267.2 = 0 then (if bt267.1 ≥ t265 then (some (decide (bt267.1 ≤ (wrap64 ((Int.tmod (wrap64 (a1)) 12) + 1))))) else (some false)) else (some false)))) = some r := H
        have A26 := zA A260
        clear A260
        replace H := Option.bind_eq_some_iff.mp H
        obtain ⟨t266, A270, H⟩ := H
        replace H : ((bounds_Griesmer.f k2 t266 x9_2 t265).bind fun bt267 => (if bt267.2 = 0 then (if bt267.1 ≥ t265 then (some (decide (bt267.1 ≤ (wrap64 ((Int.tmod (wrap64 (a1)) 12) + 1))))) else (some false)) else (some false))) = some r := H
        have A27 := zA A270
        clear A270
        replace H := Option.bind_eq_some_iff.mp H
        obtain ⟨⟨t267, t268⟩, A280, H⟩ := H
        replace H : (if t268 = 0 then (if t267 ≥ t265 then (some (decide (t267 ≤ (wrap64 ((Int.tmod (wrap64 (a1)) 12) + 1))))) else (some false)) else (some false)) = some r := H
        have A28 := zA A280
        clear A280
        by_cases c29 : t268 = 0
        ·
         rw [if_pos c29] at H
         have c29b0 : (t268 == 0) = true := beq_iff_eq.mpr c29
         have c29b1 : (t268 != 0) = false := bne_eq_false_iff_eq.mpr c29
         clear c29
         by_cases c30 : t267 ≥ t265
         ·
          rw [if_pos c30] at H
          have c30b0 : decide (t265 ≤ t267) = true := decide_eq_true c30
          clear c30
          obtain rfl := Option.some.inj H
          go_wp2_with (first | ((with_reducible refine gate_callee (f := 12) rfl ?_); refine goesL_ (some 45) rfl rfl Try.func12 (by kernel_rfl) rfl #[.int .i64 (wrap64 ((Int.tmod (wrap64 (a1)) 12) + 1)), .slice Ao20 t258.length co20] rfl (by (try simp only [List.map_toArray, List.map_cons, List.map_nil]); first | done | rfl | (simp only [List.length_drop, List.length_take]; rfl)) ?_; (with_reducible refine (codewrightref24_Weights.calls k2 (wrap64 ((Int.tmod (wrap64 (a1)) 12) + 1)) _ _ t258 t262 _ ?side1 ?side2 A25.out).mono ?_); (case side1 => exact zC ((Kd.N_reads' HO_8.out).2.2)); (case side2 => exact (Kd.N_reads' HO_8.out).2.1); rintro e w31 ⟨v263, rfl, ho0, hb⟩; refine ⟨_, rfl, ?_⟩; have HO264 := zA (Kd.N_lower (Kd.N_mono (ok' := fun k_ => some k_ ≠ (.slice Ao20 t258.length co20 : Value).ownBlock ∧ k_ ≠ gb256) (Kd.S_N (Kd.S_bound ho0)) (fun k_ hk_ => ⟨(Kd.fresh' (Kd.N_lt (by exact zN HO_8)) k_ hk_.2.1), (Kd.freshB (g := gb256) (o := .cells #[.int .i64 a0_0, .int .i64 a0_1, .slice A0_2 l0_2.length c0_2] 24 (0, 0)) (by exact zK BK256) k_ hk_.2.1)⟩)) (below_size (by repeat (first | (with_reducible first | exact HB.out | apply below_alloc | apply pw_below_drewN | apply below_drew1 | refine below_set ?_ GE256.out) | exact HB.out)))); replace HO_8 := zA (Kd.N_elder' (by exact zN HO_8) (Kd.N_base (Kd.S_N ho0)) hb); replace BK256 := zA (blk_below (g := gb256) (o := .cells #[.int .i64 a0_0, .int .i64 a0_1, .slice A0_2 l0_2.length c0_2] 24 (0, 0)) (by exact zK BK256) hb); replace HB := zA (below_step (by repeat (first | (with_reducible first | exact HB.out | apply below_alloc | apply pw_below_drewN | apply below_drew1 | refine below_set ?_ GE256.out) | exact HB.out)) hb); (try clear hb ho0); obtain ⟨Ao32, co32, eo32⟩ := Kd.N_slice HO264.out; subst eo32) | ((with_reducible refine gate_callee (f := 11) rfl ?_); refine goesL_ (some 46) rfl rfl Try.func11 (by kernel_rfl) rfl #[.slice Ao32 t262.length co32] rfl (by (try simp only [List.map_toArray, List.map_cons, List.map_nil]); first | done | rfl | (simp only [List.length_drop, List.length_take]; rfl)) ?_; (with_reducible refine (codewrightref24_Least.calls k2 _ _ t262 t265 _ ?side1 ?side2 A26.out).mono ?_); (case side1 => exact zC ((Kd.N_reads' HO264.out).2.2)); (case side2 => exact (Kd.N_reads' HO264.out).2.1); rintro e w33 ⟨rfl, hb⟩; refine ⟨_, rfl, ?_⟩; replace HO_8 := zA (Kd.N_below (by exact zN HO_8) hb); replace HO264 := zA (Kd.N_below (by exact zN HO264) hb); replace BK256 := zA (blk_below (g := gb256) (o := .cells #[.int .i64 a0_0, .int .i64 a0_1, .slice A0_2 l0_2.length c0_2] 24 (0, 0)) (by exact zK BK256) hb); replace HB := zA (below_step (by repeat (first | (with_reducible first | exact HB.out | apply below_alloc | apply pw_below_drewN | apply below_drew1 | refine below_set ?_ GE256.out) | exact HB.out)) hb); (try clear hb); have hcz34_0 : w33.cell? ⟨gb256, 0, none⟩ = some (.int .i64 a0_0) := (blk_cell BK256.out 0).trans rfl; have hcz34_1 : w33.cell? ⟨gb256, 1, none⟩ = some (.int .i64 a0_1) := (blk_cell BK256.out 1).trans rfl; have hcz34_2 : w33.cell? ⟨gb256, 2, none⟩ = some (.slice A0_2 l0_2.length c0_2) := (blk_cell BK256.out 2).trans rfl; have hfz34_0 := blk_frozen BK256.out 0; have hfz34_1 := blk_frozen BK256.out 1; have hfz34_2 := blk_frozen BK256.out 2) | ((with_reducible refine gate_callee (f := 10) rfl ?_); refine goesL_ (some 49) rfl rfl Try.func10 (by kernel_rfl) rfl #[.agg #[.int .i64 a0_0, .int .i64 a0_1, .slice A0_2 l0_2.length c0_2]] rfl (by (try simp only [List.map_toArray, List.map_cons, List.map_nil]); first | done | rfl | (simp only [List.length_drop, List.length_take]; rfl)) ?_; (with_reducible refine (codewrightref04_Order.calls k2 a0_0 a0_1 _ _ l0_2 t266 _ ?side1 ?side2 A27.out).mono ?_); (case side1 => exact zC ((Kd.C_below HR0_2.out HB.out))); (case side2 => exact HC0_2.out); rintro e w35 ⟨rfl, hb⟩; refine ⟨_, rfl, ?_⟩; replace HO_8 := zA (Kd.N_below (by exact zN HO_8) hb); replace HO264 := zA (Kd.N_below (by exact zN HO264) hb); replace BK256 := zA (blk_below (g := gb256) (o := .cells #[.int .i64 a0_0, .int .i64 a0_1, .slice A0_2 l0_2.length c0_2] 24 (0, 0)) (by exact zK BK256) hb); replace HB := zA (below_step (by repeat (first | (with_reducible first | exact HB.out | apply below_alloc | apply pw_below_drewN | apply below_drew1 | refine below_set ?_ GE256.out) | exact HB.out)) hb); (try clear hb)) | ((with_reducible refine gate_callee (f := 13) rfl ?_); refine goesL_ (some 52) rfl rfl Try.func13 (by kernel_rfl) rfl #[.int .i64 t266, .int .i64 x9_2, .int .i64 t265] rfl (by (try simp only [List.map_toArray, List.map_cons, List.map_nil]); first | done | rfl | (simp only [List.length_drop, List.length_take]; rfl)) ?_; (with_reducible refine (bounds_Griesmer.calls k2 t266 x9_2 t265 t267 t268 _ A28.out).mono ?_); rintro e w' ⟨rfl, ⟨nd, rfl⟩⟩; refine ⟨_, rfl, ?_⟩))
          go_ret
          exact ⟨by first | rfl | (simp [errW_none, errW_some] <;> rfl) | (simp [*, errW_none, errW_some] <;> rfl), by repeat (first | (with_reducible first | exact HB.out | apply below_alloc | apply pw_below_drewN | apply below_drew1 | refine below_set ?_ GE256.out) | exact HB.out)⟩
         ·
          rw [if_neg c30] at H
          have c30b0 : decide (t265 ≤ t267) = false := decide_eq_false c30
          clear c30
          obtain rfl := Option.some.inj H
          go_wp2_with (first | ((with_reducible refine gate_callee (f := 12) rfl ?_); refine goesL_ (some 45) rfl rfl Try.func12 (by kernel_rfl) rfl #[.int .i64 (wrap64 ((Int.tmod (wrap64 (a1)) 12) + 1)), .slice Ao20 t258.length co20] rfl (by (try simp only [List.map_toArray, List.map_cons, List.map_nil]); first | done | rfl | (simp only [List.length_drop, List.length_take]; rfl)) ?_; (with_reducible refine (codewrightref24_Weights.calls k2 (wrap64 ((Int.tmod (wrap64 (a1)) 12) + 1)) _ _ t258 t262 _ ?side1 ?side2 A25.out).mono ?_); (case side1 => exact zC ((Kd.N_reads' HO_8.out).2.2)); (case side2 => exact (Kd.N_reads' HO_8.out).2.1); rintro e w36 ⟨v263, rfl, ho0, hb⟩; refine ⟨_, rfl, ?_⟩; have HO264 := zA (Kd.N_lower (Kd.N_mono (ok' := fun k_ => some k_ ≠ (.slice Ao20 t258.length co20 : Value).ownBlock ∧ k_ ≠ gb256) (Kd.S_N (Kd.S_bound ho0)) (fun k_ hk_ => ⟨(Kd.fresh' (Kd.N_lt (by exact zN HO_8)) k_ hk_.2.1), (Kd.freshB (g := gb256) (o := .cells #[.int .i64 a0_0, .int .i64 a0_1, .slice A0_2 l0_2.length c0_2] 24 (0, 0)) (by exact zK BK256) k_ hk_.2.1)⟩)) (below_size (by repeat (first | (with_reducible first | exact HB.out | apply below_alloc | apply pw_below_drewN | apply below_drew1 | refine below_set ?_ GE256.out) | exact HB.out)))); replace HO_8 := zA (Kd.N_elder' (by exact zN HO_8) (Kd.N_base (Kd.S_N ho0)) hb); replace BK256 := zA (blk_below (g := gb256) (o := .cells #[.int .i64 a0_0, .int .i64 a0_1, .slice A0_2 l0_2.length c0_2] 24 (0, 0)) (by exact zK BK256) hb); replace HB := zA (below_step (by repeat (first | (with_reducible first | exact HB.out | apply below_alloc | apply pw_below_drewN | apply below_drew1 | refine below_set ?_ GE256.out) | exact HB.out)) hb); (try clear hb ho0); obtain ⟨Ao37, co37, eo37⟩ := Kd.N_slice HO264.out; subst eo37) | ((with_reducible refine gate_callee (f := 11) rfl ?_); refine goesL_ (some 46) rfl rfl Try.func11 (by kernel_rfl) rfl #[.slice Ao37 t262.length co37] rfl (by (try simp only [List.map_toArray, List.map_cons, List.map_nil]); first | done | rfl | (simp only [List.length_drop, List.length_take]; rfl)) ?_; (with_reducible refine (codewrightref24_Least.calls k2 _ _ t262 t265 _ ?side1 ?side2 A26.out).mono ?_); (case side1 => exact zC ((Kd.N_reads' HO264.out).2.2)); (case side2 => exact (Kd.N_reads' HO264.out).2.1); rintro e w38 ⟨rfl, hb⟩; refine ⟨_, rfl, ?_⟩; replace HO_8 := zA (Kd.N_below (by exact zN HO_8) hb); replace HO264 := zA (Kd.N_below (by exact zN HO264) hb); replace BK256 := zA (blk_below (g := gb256) (o := .cells #[.int .i64 a0_0, .int .i64 a0_1, .slice A0_2 l0_2.length c0_2] 24 (0, 0)) (by exact zK BK256) hb); replace HB := zA (below_step (by repeat (first | (with_reducible first | exact HB.out | apply below_alloc | apply pw_below_drewN | apply below_drew1 | refine below_set ?_ GE256.out) | exact HB.out)) hb); (try clear hb); have hcz39_0 : w38.cell? ⟨gb256, 0, none⟩ = some (.int .i64 a0_0) := (blk_cell BK256.out 0).trans rfl; have hcz39_1 : w38.cell? ⟨gb256, 1, none⟩ = some (.int .i64 a0_1) := (blk_cell BK256.out 1).trans rfl; have hcz39_2 : w38.cell? ⟨gb256, 2, none⟩ = some (.slice A0_2 l0_2.length c0_2) := (blk_cell BK256.out 2).trans rfl; have hfz39_0 := blk_frozen BK256.out 0; have hfz39_1 := blk_frozen BK256.out 1; have hfz39_2 := blk_frozen BK256.out 2) | ((with_reducible refine gate_callee (f := 10) rfl ?_); refine goesL_ (some 49) rfl rfl Try.func10 (by kernel_rfl) rfl #[.agg #[.int .i64 a0_0, .int .i64 a0_1, .slice A0_2 l0_2.length c0_2]] rfl (by (try simp only [List.map_toArray, List.map_cons, List.map_nil]); first | done | rfl | (simp only [List.length_drop, List.length_take]; rfl)) ?_; (with_reducible refine (codewrightref04_Order.calls k2 a0_0 a0_1 _ _ l0_2 t266 _ ?side1 ?side2 A27.out).mono ?_); (case side1 => exact zC ((Kd.C_below HR0_2.out HB.out))); (case side2 => exact HC0_2.out); rintro e w40 ⟨rfl, hb⟩; refine ⟨_, rfl, ?_⟩; replace HO_8 := zA (Kd.N_below (by exact zN HO_8) hb); replace HO264 := zA (Kd.N_below (by exact zN HO264) hb); replace BK256 := zA (blk_below (g := gb256) (o := .cells #[.int .i64 a0_0, .int .i64 a0_1, .slice A0_2 l0_2.length c0_2] 24 (0, 0)) (by exact zK BK256) hb); replace HB := zA (below_step (by repeat (first | (with_reducible first | exact HB.out | apply below_alloc | apply pw_below_drewN | apply below_drew1 | refine below_set ?_ GE256.out) | exact HB.out)) hb); (try clear hb)) | ((with_reducible refine gate_callee (f := 13) rfl ?_); refine goesL_ (some 52) rfl rfl Try.func13 (by kernel_rfl) rfl #[.int .i64 t266, .int .i64 x9_2, .int .i64 t265] rfl (by (try simp only [List.map_toArray, List.map_cons, List.map_nil]); first | done | rfl | (simp only [List.length_drop, List.length_take]; rfl)) ?_; (with_reducible refine (bounds_Griesmer.calls k2 t266 x9_2 t265 t267 t268 _ A28.out).mono ?_); rintro e w' ⟨rfl, ⟨nd, rfl⟩⟩; refine ⟨_, rfl, ?_⟩))
          go_ret
          exact ⟨by first | rfl | (simp [errW_none, errW_some] <;> rfl) | (simp [*, errW_none, errW_some] <;> rfl), by repeat (first | (with_reducible first | exact HB.out | apply below_alloc | apply pw_below_drewN | apply below_drew1 | refine below_set ?_ GE256.out) | exact HB.out)⟩
        ·
         rw [if_neg c29] at H
         have c29b0 : (t268 == 0) = false := beq_eq_false_iff_ne.mpr c29
         have c29b1 : (t268 != 0) = true := bne_iff_ne.mpr c29
         obtain rfl := Option.some.inj H
         go_wp2_with (first | ((with_reducible refine gate_callee (f := 12) rfl ?_); refine goesL_ (some 45) rfl rfl Try.func12 (by kernel_rfl) rfl #[.int .i64 (wrap64 ((Int.tmod (wrap64 (a1)) 12) + 1)), .slice Ao20 t258.length co20] rfl (by (try simp only [List.map_toArray, List.map_cons, List.map_nil]); first | done | rfl | (simp only [List.length_drop, List.length_take]; rfl)) ?_; (with_reducible refine (codewrightref24_Weights.calls k2 (wrap64 ((Int.tmod (wrap64 (a1)) 12) + 1)) _ _ t258 t262 _ ?side1 ?side2 A25.out).mono ?_); (case side1 => exact zC ((Kd.N_reads' HO_8.out).2.2)); (case side2 => exact (Kd.N_reads' HO_8.out).2.1); rintro e w41 ⟨v263, rfl, ho0, hb⟩; refine ⟨_, rfl, ?_⟩; have HO264 := zA (Kd.N_lower (Kd.N_mono (ok' := fun k_ => some k_ ≠ (.slice Ao20 t258.length co20 : Value).ownBlock ∧ k_ ≠ gb256) (Kd.S_N (Kd.S_bound ho0)) (fun k_ hk_ => ⟨(Kd.fresh' (Kd.N_lt (by exact zN HO_8)) k_ hk_.2.1), (Kd.freshB (g := gb256) (o := .cells #[.int .i64 a0_0, .int .i64 a0_1, .slice A0_2 l0_2.length c0_2] 24 (0, 0)) (by exact zK BK256) k_ hk_.2.1)⟩)) (below_size (by repeat (first | (with_reducible first | exact HB.out | apply below_alloc | apply pw_below_drewN | apply below_drew1 | refine below_set ?_ GE256.out) | exact HB.out)))); replace HO_8 := zA (Kd.N_elder' (by exact zN HO_8) (Kd.N_base (Kd.S_N ho0)) hb); replace BK256 := zA (blk_below (g := gb256) (o := .cells #[.int .i64 a0_0, .int .i64 a0_1, .slice A0_2 l0_2.length c0_2] 24 (0, 0)) (by exact zK BK256) hb); replace HB := zA (below_step (by repeat (first | (with_reducible first | exact HB.out | apply below_alloc | apply pw_below_drewN | apply below_drew1 | refine below_set ?_ GE256.out) | exact HB.out)) hb); (try clear hb ho0); obtain ⟨Ao42, co42, eo42⟩ := Kd.N_slice HO264.out; subst eo42) | ((with_reducible refine gate_callee (f := 11) rfl ?_); refine goesL_ (some 46) rfl rfl Try.func11 (by kernel_rfl) rfl #[.slice Ao42 t262.length co42] rfl (by (try simp only [List.map_toArray, List.map_cons, List.map_nil]); first | done | rfl | (simp only [List.length_drop, List.length_take]; rfl)) ?_; (with_reducible refine (codewrightref24_Least.calls k2 _ _ t262 t265 _ ?side1 ?side2 A26.out).mono ?_); (case side1 => exact zC ((Kd.N_reads' HO264.out).2.2)); (case side2 => exact (Kd.N_reads' HO264.out).2.1); rintro e w43 ⟨rfl, hb⟩; refine ⟨_, rfl, ?_⟩; replace HO_8 := zA (Kd.N_below (by exact zN HO_8) hb); replace HO264 := zA (Kd.N_below (by exact zN HO264) hb); replace BK256 := zA (blk_below (g := gb256) (o := .cells #[.int .i64 a0_0, .int .i64 a0_1, .slice A0_2 l0_2.length c0_2] 24 (0, 0)) (by exact zK BK256) hb); replace HB := zA (below_step (by repeat (first | (with_reducible first | exact HB.out | apply below_alloc | apply pw_below_drewN | apply below_drew1 | refine below_set ?_ GE256.out) | exact HB.out)) hb); (try clear hb); have hcz44_0 : w43.cell? ⟨gb256, 0, none⟩ = some (.int .i64 a0_0) := (blk_cell BK256.out 0).trans rfl; have hcz44_1 : w43.cell? ⟨gb256, 1, none⟩ = some (.int .i64 a0_1) := (blk_cell BK256.out 1).trans rfl; have hcz44_2 : w43.cell? ⟨gb256, 2, none⟩ = some (.slice A0_2 l0_2.length c0_2) := (blk_cell BK256.out 2).trans rfl; have hfz44_0 := blk_frozen BK256.out 0; have hfz44_1 := blk_frozen BK256.out 1; have hfz44_2 := blk_frozen BK256.out 2) | ((with_reducible refine gate_callee (f := 10) rfl ?_); refine goesL_ (some 49) rfl rfl Try.func10 (by kernel_rfl) rfl #[.agg #[.int .i64 a0_0, .int .i64 a0_1, .slice A0_2 l0_2.length c0_2]] rfl (by (try simp only [List.map_toArray, List.map_cons, List.map_nil]); first | done | rfl | (simp only [List.length_drop, List.length_take]; rfl)) ?_; (with_reducible refine (codewrightref04_Order.calls k2 a0_0 a0_1 _ _ l0_2 t266 _ ?side1 ?side2 A27.out).mono ?_); (case side1 => exact zC ((Kd.C_below HR0_2.out HB.out))); (case side2 => exact HC0_2.out); rintro e w45 ⟨rfl, hb⟩; refine ⟨_, rfl, ?_⟩; replace HO_8 := zA (Kd.N_below (by exact zN HO_8) hb); replace HO264 := zA (Kd.N_below (by exact zN HO264) hb); replace BK256 := zA (blk_below (g := gb256) (o := .cells #[.int .i64 a0_0, .int .i64 a0_1, .slice A0_2 l0_2.length c0_2] 24 (0, 0)) (by exact zK BK256) hb); replace HB := zA (below_step (by repeat (first | (with_reducible first | exact HB.out | apply below_alloc | apply pw_below_drewN | apply below_drew1 | refine below_set ?_ GE256.out) | exact HB.out)) hb); (try clear hb)) | ((with_reducible refine gate_callee (f := 13) rfl ?_); refine goesL_ (some 52) rfl rfl Try.func13 (by kernel_rfl) rfl #[.int .i64 t266, .int .i64 x9_2, .int .i64 t265] rfl (by (try simp only [List.map_toArray, List.map_cons, List.map_nil]); first | done | rfl | (simp only [List.length_drop, List.length_take]; rfl)) ?_; (with_reducible refine (bounds_Griesmer.calls k2 t266 x9_2 t265 t267 t268 _ A28.out).mono ?_); rintro e w' ⟨rfl, ⟨nd, rfl⟩⟩; refine ⟨_, rfl, ?_⟩))
         go_ret
         exact ⟨by first | rfl | (simp [errW_none, errW_some] <;> rfl) | (simp [*, errW_none, errW_some] <;> rfl), by repeat (first | (with_reducible first | exact HB.out | apply below_alloc | apply pw_below_drewN | apply below_drew1 | refine below_set ?_ GE256.out) | exact HB.out)⟩
end Go.Proofs.Ytpjpbhjpobdenaa.PBoundsLinear
