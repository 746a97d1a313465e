/- A part of the print of this row, cut down to what the row uses. -/
import Derived.Test.YtjignpnnmfdedaaQChannelPatternsx0
import Derived.Test.YtjignpnnmfdedaaQChannelPatternsx7
import Derived.Test.YtjignpnnmfdedaaQChannelPatternsx9
import Derived.Test.YtjignpnnmfdedaaQChannelPatternsWSq
-- printed by a scratch copy of the print, turned (wip/tools/turn_print.py)
namespace Go.Proofs.Ytjignpnnmfdedaa.PChannelPatterns
open Go.RowKit Go.Proofs.YtjignpnnmfdedaaW.PrintWords Go.Proofs.YtjignpnnmfdedaaW.PrintLast Go.Proofs.YtjignpnnmfdedaaW.PrintMore
attribute [local go_sem] max2_int min2_int max_two min_two max_three min_three max_four min_four   -- for this text's walks alone
set_option linter.unusedVariables false
set_option linter.unusedSimpArgs false
/-! ### codewrightref01_Mul: function 47 -/
mutual
def codewrightref01_Mul.l0 : Nat → List Int → List Int → List Int → Int → Option (List Int)
 | 0, _, _, _, _ => none
 | k + 1, x0, x1, x5, x6 => if x6 < (x0.length : Int) then (codewrightref01_Mul.l1 k x0 x1 x5 x6 0 0) else ((codewrightref01_Trim.f k x5).bind fun t535 => (some t535))
def codewrightref01_Mul.l1 : Nat → List Int → List Int → List Int → Int → Int → Int → Option (List Int)
 | 0, _, _, _, _, _, _ => none
 | k + 1, x0, x1, x5, x6, x7, x8 => if x8 < (x1.length : Int) then (if 0 ≤ x6 then (if x6 < (x0.length : Int) then (if 0 ≤ x8 then (if 0 ≤ (wrap64 (x6 + x8)) then (if (wrap64 (x6 + x8)) < (x5.length : Int) then (codewrightref01_Mul.l1 k x0 x1 (x5.set ((wrap64 (x6 + x8)) : Int).toNat ((Int.tmod (IntKind.u64.wrap ((IntKind.u64.wrap ((IntKind.u64.wrap ((IntKind.u64.wrap (rd x0 x6)) * (IntKind.u64.wrap (rd x1 x8)))) + (IntKind.u64.wrap (rd x5 (wrap64 (x6 + x8)))))) + x7)) 4294967296) % 4294967296)) x6 (IntKind.u64.wrap (Int.tdiv (IntKind.u64.wrap ((IntKind.u64.wrap ((IntKind.u64.wrap ((IntKind.u64.wrap (rd x0 x6)) * (IntKind.u64.wrap (rd x1 x8)))) + (IntKind.u64.wrap (rd x5 (wrap64 (x6 + x8)))))) + x7)) 4294967296)) (wrap64 (x8 + 1))) else (none)) else (none)) else (none)) else (none)) else (none)) else (if 0 ≤ (wrap64 (x6 + (x1.length : Int))) then (if (wrap64 (x6 + (x1.length : Int))) < (x5.length : Int) then (codewrightref01_Mul.l0 k x0 x1 (x5.set ((wrap64 (x6 + (x1.length : Int))) : Int).toNat ((x7) % 4294967296)) (wrap64 (x6 + 1))) else (none)) else (none))
end
def codewrightref01_Mul.f (k : Nat) (l0 : List Int) (l1 : List Int) : Option (List Int) := if 0 ≤ (wrap64 ((l0.length : Int) + (l1.length : Int))) then (if (wrap64 ((l0.length : Int) + (l1.length : Int)) : Int).toNat ≤ 70368744177664 then (codewrightref01_Mul.l0 k l0 l1 (List.replicate (wrap64 ((l0.length : Int) + (l1.length : Int)) : Int).toNat 0) 0) else (none)) else (none)
set_option maxHeartbeats 8000000 in
set_option maxRecDepth 100000 in
theorem codewrightref01_Mul.calls (k : Nat) (A0 : Option Addr) (c0 : Nat) (l0 : List Int) (A1 : Option Addr) (c1 : Nat) (l1 : List Int) (r : List Int) (w : World) (hr0 : Kd.C (Kd.int .u32) w A0 l0.length l0) (hc0 : l0.length ≤ c0) (hr1 : Kd.C (Kd.int .u32) w A1 l1.length l1) (hc1 : l1.length ≤ c1) (h : codewrightref01_Mul.f k l0 l1 = some r) :
  Calls Try.prog 47 #[.slice A0 l0.length c0, .slice A1 l1.length c1] w fun e w' => ∃ v0_ : Value, e = .returned (v0_) ∧ Kd.R (Kd.int .u32) 79 w' w.heap.size (fun _ => True) v0_ r ∧ Below w.heap.size w w' := by
 have HR0 := zA hr0
 have HC0 := zA hc0
 clear hr0 hc0
 have HR1 := zA hr1
 have HC1 := zA hc1
 clear hr1 hc1
 have HB := zA (Below.refl w.heap.size w)
 have H : (if 0 ≤ (wrap64 ((l0.length : Int) + (l1.length : Int))) then (if (wrap64 ((l0.length : Int) + (l1.length : Int)) : Int).toNat ≤ 70368744177664 then (codewrightref01_Mul.l0 k l0 l1 (List.replicate (wrap64 ((l0.length : Int) + (l1.length : Int)) : Int).toNat 0) 0) else (none)) else (none)) = some r := h
 clear h
 obtain ⟨ji3, hji3⟩ : ∃ j_ : Int, (wrap64 ((l0.length : Int) + (l1.length : Int))) = j_ := ⟨_, rfl⟩
 replace H : (if 0 ≤ (ji3) then (if (ji3 : Int).toNat ≤ 70368744177664 then (codewrightref01_Mul.l0 k l0 l1 (List.replicate (ji3 : Int).toNat 0) 0) else (none)) else (none)) = some r := by first | (rw [hji3] at H; exact H) | (simp only [hji3] at H ⊢; exact H)
 have hji3w : (IntKind.i64.wrap ((l0.length : Int) + (l1.length : Int))) = ji3 := (i64_w _).trans hji3
 by_cases c4 : 0 ≤ (ji3)
 ·
  rw [if_pos c4] at H
  have c4b0 := eq_true c4
  have c4b1 : decide (0 ≤ (ji3)) = true := decide_eq_true c4
  clear c4
  by_cases c5 : (ji3 : Int).toNat ≤ 70368744177664
  ·
   rw [if_pos c5] at H
   have c5b0 := eq_true c5
   have c5b1 : decide ((ji3 : Int).toNat ≤ 70368744177664) = true := decide_eq_true c5
   clear c5
   obtain ⟨y532, hy532⟩ : ∃ y_ : List Int, y_ = (List.replicate (ji3 : Int).toNat 0) := ⟨_, rfl⟩
   replace H : (codewrightref01_Mul.l0 k l0 l1 y532 0) = some r := by first | (rw [hy532]; with_reducible exact H) | (have H := (Option.bind_some _ _).symm.trans H; first | (rw [hy532]; with_reducible exact H) | with_reducible exact H) | (rw [hy532]; exact H) | exact H
   have Ny532 := zA hy532
   clear hy532
   have H' := zA H
   clear H
   go_enter Try.func47, Try.ntmps47
   go_wp2_with (first | ((with_reducible refine gate_dst (N := 15) rfl ?_); refine Kd.R_make (Kd.int .u32) _ 79 rfl (N := 15) rfl 32 _ _ rfl ji3 rfl rfl Try.underlying32 (.int .u32 0) 4 info79 rfl (by decide) (by omega) 0 (ok := fun _ => True) (okp := fun _ => True) rfl (fun _ hk => hk) trivial (of_decide_eq_true (by assumption)) (Nat.le_trans (Nat.mul_le_mul_right _ (of_decide_eq_true (by assumption) : ji3.toNat ≤ 70368744177664)) (by omega)) (Below.refl _ _) (Nat.le_refl _) ?_; intro v533 w6 ho7 hb hg_ hnew_; clear hg_ hnew_; (first | rw [← Ny532.out] at ho7 | (simp only [Int.reduceToNat] at ho7; rw [← Ny532.out] at ho7)); have HO534 := zA (Kd.R_lower ho7 (below_size (by exact zB HB))); replace HB := zA (below_step (by exact zB HB) hb); clear hb ho7))
   repeat (go_quiet (first | ((with_reducible refine gate_dst (N := 15) rfl ?_); refine Kd.R_make (Kd.int .u32) _ 79 rfl (N := 15) rfl 32 _ _ rfl ji3 rfl rfl Try.underlying32 (.int .u32 0) 4 info79 rfl (by decide) (by omega) 0 (ok := fun _ => True) (okp := fun _ => True) rfl (fun _ hk => hk) trivial (of_decide_eq_true (by assumption)) (Nat.le_trans (Nat.mul_le_mul_right _ (of_decide_eq_true (by assumption) : ji3.toNat ≤ 70368744177664)) (by omega)) (Below.refl _ _) (Nat.le_refl _) ?_; intro v533 w6 ho7 hb hg_ hnew_; clear hg_ hnew_; (first | rw [← Ny532.out] at ho7 | (simp only [Int.reduceToNat] at ho7; rw [← Ny532.out] at ho7)); have HO534 := zA (Kd.R_lower ho7 (below_size (by exact zB HB))); replace HB := zA (below_step (by exact zB HB) hb); clear hb ho7)); try go_wp2_with (first | ((with_reducible refine gate_dst (N := 15) rfl ?_); refine Kd.R_make (Kd.int .u32) _ 79 rfl (N := 15) rfl 32 _ _ rfl ji3 rfl rfl Try.underlying32 (.int .u32 0) 4 info79 rfl (by decide) (by omega) 0 (ok := fun _ => True) (okp := fun _ => True) rfl (fun _ hk => hk) trivial (of_decide_eq_true (by assumption)) (Nat.le_trans (Nat.mul_le_mul_right _ (of_decide_eq_true (by assumption) : ji3.toNat ≤ 70368744177664)) (by omega)) (Below.refl _ _) (Nat.le_refl _) ?_; intro v533 w6 ho7 hb hg_ hnew_; clear hg_ hnew_; (first | rw [← Ny532.out] at ho7 | (simp only [Int.reduceToNat] at ho7; rw [← Ny532.out] at ho7)); have HO534 := zA (Kd.R_lower ho7 (below_size (by exact zB HB))); replace HB := zA (below_step (by exact zB HB) hb); clear hb ho7)))
   go_loopg [6] k (fun kq v6 w' => ∃ (x5_1 : List Int) (x6_1 : Int), v6 = .int .i64 x6_1 ∧ Aside0 (codewrightref01_Mul.l0 kq l0 l1 x5_1 x6_1 = some r) ∧ Aside0 (kq ≤ k) ∧ Aside0 (Kd.R (Kd.int .u32) 79 w' w.heap.size (fun _ => True) v533 x5_1) ∧ Aside0 (Below w.heap.size w w'))
   case atStart => exact ⟨(y532), (0), (by first | rfl | (simp; done) | (simp [*]; done)), H', ⟨Nat.le_refl _⟩, ⟨by exact zR HO534⟩, ⟨by exact zB HB⟩⟩
   case round =>
    clear H'
    try clear c1
    try clear p2
    try clear c4
    try clear c4b0
    try clear c4b1
    try clear c5
    try clear c5b0
    try clear c5b1
    try clear p6
    obtain ⟨x5_1, x6_1, rfl, HA, HK1, HO_5, HB⟩ := hrel
    cases gk with
    | zero => exact absurd HA.out (by simp [codewrightref01_Mul.l0])
    | succ k1 =>
     have H := HA.out
     clear HA
     simp only [codewrightref01_Mul.l0] at H
     by_cases c8 : x6_1 < (l0.length : Int)
     ·
      rw [if_pos c8] at H
      have c8b0 : decide (x6_1 < (l0.length : Int)) = true := decide_eq_true c8
      clear c8
      have H' := zA H
      clear H
      go_wp2
      repeat (go_quiet (fail); try go_wp2)
      go_loopg [7, 8] k1 (fun kq v7 v8 w' => ∃ (x5_2 : List Int) (x7_2 : Int) (x8_2 : Int), v7 = .int .u64 x7_2 ∧ v8 = .int .i64 x8_2 ∧ Aside0 (codewrightref01_Mul.l1 kq l0 l1 x5_2 x6_1 x7_2 x8_2 = some r) ∧ Aside0 (kq ≤ k1) ∧ Aside0 (Kd.R (Kd.int .u32) 79 w' w.heap.size (fun _ => True) v533 x5_2) ∧ Aside0 (Below w.heap.size w w'))
      case atStart => exact ⟨(x5_1), (0), (0), (by first | rfl | (simp; done) | (simp [*]; done)), (by first | rfl | (simp; done) | (simp [*]; done)), H', ⟨Nat.le_refl _⟩, ⟨by exact zR HO_5⟩, ⟨by exact zB HB⟩⟩
      case round =>
       clear H'
       try clear c1
       try clear p2
       try clear c4
       try clear c4b0
       try clear c4b1
       try clear c5
       try clear c5b0
       try clear c5b1
       try clear p6
       try clear c8
       try clear c8b0
       try clear p2
       try clear p6
       obtain ⟨x5_2, x7_2, x8_2, rfl, rfl, HA, HK2, HO_5, HB⟩ := hrel
       cases gk with
       | zero => exact absurd HA.out (by simp [codewrightref01_Mul.l1])
       | succ k2 =>
        have H := HA.out
        clear HA
        simp only [codewrightref01_Mul.l1] at H
        by_cases c9 : x8_2 < (l1.length : Int)
        ·
         rw [if_pos c9] at H
         have c9b0 : decide (x8_2 < (l1.length : Int)) = true := decide_eq_true c9
         clear c9
         by_cases c10 : 0 ≤ x6_1
         ·
          rw [if_pos c10] at H
          have c10b0 : decide (0 ≤ x6_1) = true := decide_eq_true c10
          clear c10
          by_cases c11 : x6_1 < (l0.length : Int)
          ·
           rw [if_pos c11] at H
           have c11b0 : decide (x6_1 < (l0.length : Int)) = true := decide_eq_true c11
           clear c11
           by_cases c12 : 0 ≤ x8_2
           ·
            rw [if_pos c12] at H
            have c12b0 : decide (0 ≤ x8_2) = true := decide_eq_true c12
            clear c12
            obtain ⟨ji13, hji13⟩ : ∃ j_ : Int, (wrap64 (x6_1 + x8_2)) = j_ := ⟨_, rfl⟩
            replace H : (if 0 ≤ (ji13) then (if (ji13) < (x5_2.length : Int) then (codewrightref01_Mul.l1 k2 l0 l1 (x5_2.set ((ji13) : Int).toNat ((Int.tmod (IntKind.u64.wrap ((IntKind.u64.wrap ((IntKind.u64.wrap ((IntKind.u64.wrap (rd l0 x6_1)) * (IntKind.u64.wrap (rd l1 x8_2)))) + (IntKind.u64.wrap (rd x5_2 (ji13))))) + x7_2)) 4294967296) % 4294967296)) x6_1 (IntKind.u64.wrap (Int.tdiv (IntKind.u64.wrap ((IntKind.u64.wrap ((IntKind.u64.wrap ((IntKind.u64.wrap (rd l0 x6_1)) * (IntKind.u64.wrap (rd l1 x8_2)))) + (IntKind.u64.wrap (rd x5_2 (ji13))))) + x7_2)) 4294967296)) (wrap64 (x8_2 + 1))) else (none)) else (none)) = some r := by first | (rw [hji13] at H; exact H) | (simp only [hji13] at H ⊢; exact H)
            have hji13w : (IntKind.i64.wrap (x6_1 + x8_2)) = ji13 := (i64_w _).trans hji13
            by_cases c14 : 0 ≤ (ji13)
            ·
             rw [if_pos c14] at H
             have c14b0 : decide (0 ≤ (ji13)) = true := decide_eq_true c14
             clear c14
             by_cases c15 : (ji13) < (x5_2.length : Int)
             ·
              rw [if_pos c15] at H
              have c15b0 : decide ((ji13) < (x5_2.length : Int)) = true := decide_eq_true c15
              clear c15
              obtain ⟨y541, hy541⟩ : ∃ y_ : List Int, y_ = (x5_2.set ((ji13) : Int).toNat ((Int.tmod (IntKind.u64.wrap ((IntKind.u64.wrap ((IntKind.u64.wrap ((IntKind.u64.wrap (rd l0 x6_1)) * (IntKind.u64.wrap (rd l1 x8_2)))) + (IntKind.u64.wrap (rd x5_2 (ji13))))) + x7_2)) 4294967296) % 4294967296)) := ⟨_, rfl⟩
              replace H : (codewrightref01_Mul.l1 k2 l0 l1 y541 x6_1 (IntKind.u64.wrap (Int.tdiv (IntKind.u64.wrap ((IntKind.u64.wrap ((IntKind.u64.wrap ((IntKind.u64.wrap (rd l0 x6_1)) * (IntKind.u64.wrap (rd l1 x8_2)))) + (IntKind.u64.wrap (rd x5_2 (ji13))))) + x7_2)) 4294967296)) (wrap64 (x8_2 + 1))) = some r := by first | (rw [hy541]; with_reducible exact H) | (have H := (Option.bind_some _ _).symm.trans H; first | (rw [hy541]; with_reducible exact H) | with_reducible exact H) | (rw [hy541]; exact H) | exact H
              have Ny541 := zA hy541
              clear hy541
              have H' := zA H
              clear H
              have p538 : 0 ≤ (x6_1 : Int) := of_decide_eq_true (by assumption)
              have q538 : x6_1 < (l0.length : Int) := of_decide_eq_true (by assumption)
              obtain ⟨ad538, e538, hx538_0⟩ := Kd.at_int HR0.out x6_1 p538 q538
              cases e538
              replace hx538_0 := (HB.out.cell (World.block_lt_of_cell? w _ hx538_0)).trans hx538_0
              replace p538 := eq_true p538
              replace q538 := eq_true q538
              have p539 : 0 ≤ (x8_2 : Int) := of_decide_eq_true (by assumption)
              have q539 : x8_2 < (l1.length : Int) := of_decide_eq_true (by assumption)
              obtain ⟨ad539, e539, hx539_0⟩ := Kd.at_int HR1.out x8_2 p539 q539
              cases e539
              replace hx539_0 := (HB.out.cell (World.block_lt_of_cell? w _ hx539_0)).trans hx539_0
              replace p539 := eq_true p539
              replace q539 := eq_true q539
              obtain ⟨Ao17, co17, eo17⟩ := Kd.R_slice HO_5.out
              subst eo17
              have p540 : 0 ≤ ((ji13) : Int) := of_decide_eq_true (by assumption)
              have q540 : (ji13) < (x5_2.length : Int) := of_decide_eq_true (by assumption)
              obtain ⟨ad540, e540, hx540_0⟩ := Kd.at_int (Kd.R_reads' HO_5.out).2.2 (ji13) p540 q540
              cases e540
              replace p540 := eq_true p540
              replace q540 := eq_true q540
              have p16 : 0 ≤ ((ji13) : Int) := of_decide_eq_true (by assumption)
              have q16 : ((ji13) : Int) < ((x5_2.length : Int) : Int) := of_decide_eq_true (by assumption)
              obtain ⟨go16, co16, eo16, gb16, gl16, cl16, HG16⟩ := Kd.R_form HO_5.out (by omega)
              (first | cases eo16 | (injection eo16 with ea_ en_ ec_; (first | subst ea_ | (injection ea_ with ea_; subst ea_)); subst ec_; clear en_))
              have GB16 := zA gb16
              have GG16 := zA HG16
              clear gb16 gl16 HG16
              (first | simp only [add_plain] at hx540_0 | skip)
              obtain ⟨hx16_0, hf16_0⟩ := Kd.R_celln 0 HO_5.out ((ji13) : Int) p16 q16
              replace p16 := eq_true p16
              replace q16 := eq_true q16
              have HP18 := Kd.R_putg HO_5.out ((ji13) : Int) ((Int.tmod (IntKind.u64.wrap ((IntKind.u64.wrap ((IntKind.u64.wrap ((IntKind.u64.wrap (rd l0 x6_1)) * (IntKind.u64.wrap (rd l1 x8_2)))) + (IntKind.u64.wrap (rd x5_2 (ji13))))) + x7_2)) 4294967296) % 4294967296)
              go_wp2_with (first | ((with_reducible refine gate_store (t := 79) (p := 56) rfl ?_); (try (rw [drewN_self wr]; generalize hq_ : World.drewN wr _ = wr; have n0_ := zA (Kd.R_at hq_ HO_5.out); have n1_ := zA (below_at hq_ HB.out); clear hq_ HO_5 HB; have HO_5 := n0_; have HB := n1_; clear n0_ n1_; (try (have HP18 := Kd.R_putg HO_5.out ((ji13) : Int) ((Int.tmod (IntKind.u64.wrap ((IntKind.u64.wrap ((IntKind.u64.wrap ((IntKind.u64.wrap (rd l0 x6_1)) * (IntKind.u64.wrap (rd l1 x8_2)))) + (IntKind.u64.wrap (rd x5_2 (ji13))))) + x7_2)) 4294967296) % 4294967296))))); (try (have hxn_ := Kd.R_celln 0 HO_5.out ((ji13) : Int) (of_eq_true p16) (of_eq_true q16); clear hx16_0 hf16_0; have hx16_0 := hxn_.1; have hf16_0 := hxn_.2; clear hxn_; (try simp only [Int.toNat_natCast] at hx16_0 hf16_0))); refine store_event (t := 79) (p := 56) (v := ?vo_w19) (w1 := (wr.setCell ⟨go16, ((ji13) : Int).toNat, none⟩ (.int .u32 ((Int.tmod (IntKind.u64.wrap ((IntKind.u64.wrap ((IntKind.u64.wrap ((IntKind.u64.wrap (rd l0 x6_1)) * (IntKind.u64.wrap (rd l1 x8_2)))) + (IntKind.u64.wrap (rd x5_2 (ji13))))) + x7_2)) 4294967296) % 4294967296)))) ?hg ?ho ?hn ?hr ?_; (case ho => rfl); (case hg => rfl); (case hn => rfl); (case hr => first | (go_simp; done) | (go_simp; rfl)); intro w19 hw; have hg : wr.grownBy w19 (some go16) := (by rw [hw]; exact HP18.2); have hp_ : Kd.R (Kd.int .u32) 79 w19 w.heap.size (fun _ => True) (.slice (some ⟨go16, 0, none⟩) x5_2.length co17) y541 := (by rw [hw, Ny541.out]; exact HP18.1); clear HP18; replace HO_5 := zA (hp_); replace HB := zA ((by rw [hw]; exact below_set (HB.out) GB16.out : Below w.heap.size w w19)); clear hg hw hp_))
              repeat (go_quiet (first | ((with_reducible refine gate_store (t := 79) (p := 56) rfl ?_); (try (rw [drewN_self wr]; generalize hq_ : World.drewN wr _ = wr; have n0_ := zA (Kd.R_at hq_ HO_5.out); have n1_ := zA (below_at hq_ HB.out); clear hq_ HO_5 HB; have HO_5 := n0_; have HB := n1_; clear n0_ n1_; (try (have HP18 := Kd.R_putg HO_5.out ((ji13) : Int) ((Int.tmod (IntKind.u64.wrap ((IntKind.u64.wrap ((IntKind.u64.wrap ((IntKind.u64.wrap (rd l0 x6_1)) * (IntKind.u64.wrap (rd l1 x8_2)))) + (IntKind.u64.wrap (rd x5_2 (ji13))))) + x7_2)) 4294967296) % 4294967296))))); (try (have hxn_ := Kd.R_celln 0 HO_5.out ((ji13) : Int) (of_eq_true p16) (of_eq_true q16); clear hx16_0 hf16_0; have hx16_0 := hxn_.1; have hf16_0 := hxn_.2; clear hxn_; (try simp only [Int.toNat_natCast] at hx16_0 hf16_0))); refine store_event (t := 79) (p := 56) (v := ?vo_w19) (w1 := (wr.setCell ⟨go16, ((ji13) : Int).toNat, none⟩ (.int .u32 ((Int.tmod (IntKind.u64.wrap ((IntKind.u64.wrap ((IntKind.u64.wrap ((IntKind.u64.wrap (rd l0 x6_1)) * (IntKind.u64.wrap (rd l1 x8_2)))) + (IntKind.u64.wrap (rd x5_2 (ji13))))) + x7_2)) 4294967296) % 4294967296)))) ?hg ?ho ?hn ?hr ?_; (case ho => rfl); (case hg => rfl); (case hn => rfl); (case hr => first | (go_simp; done) | (go_simp; rfl)); intro w19 hw; have hg : wr.grownBy w19 (some go16) := (by rw [hw]; exact HP18.2); have hp_ : Kd.R (Kd.int .u32) 79 w19 w.heap.size (fun _ => True) (.slice (some ⟨go16, 0, none⟩) x5_2.length co17) y541 := (by rw [hw, Ny541.out]; exact HP18.1); clear HP18; replace HO_5 := zA (hp_); replace HB := zA ((by rw [hw]; exact below_set (HB.out) GB16.out : Below w.heap.size w w19)); clear hg hw hp_)); try go_wp2_with (first | ((with_reducible refine gate_store (t := 79) (p := 56) rfl ?_); (try (rw [drewN_self wr]; generalize hq_ : World.drewN wr _ = wr; have n0_ := zA (Kd.R_at hq_ HO_5.out); have n1_ := zA (below_at hq_ HB.out); clear hq_ HO_5 HB; have HO_5 := n0_; have HB := n1_; clear n0_ n1_; (try (have HP18 := Kd.R_putg HO_5.out ((ji13) : Int) ((Int.tmod (IntKind.u64.wrap ((IntKind.u64.wrap ((IntKind.u64.wrap ((IntKind.u64.wrap (rd l0 x6_1)) * (IntKind.u64.wrap (rd l1 x8_2)))) + (IntKind.u64.wrap (rd x5_2 (ji13))))) + x7_2)) 4294967296) % 4294967296))))); (try (have hxn_ := Kd.R_celln 0 HO_5.out ((ji13) : Int) (of_eq_true p16) (of_eq_true q16); clear hx16_0 hf16_0; have hx16_0 := hxn_.1; have hf16_0 := hxn_.2; clear hxn_; (try simp only [Int.toNat_natCast] at hx16_0 hf16_0))); refine store_event (t := 79) (p := 56) (v := ?vo_w19) (w1 := (wr.setCell ⟨go16, ((ji13) : Int).toNat, none⟩ (.int .u32 ((Int.tmod (IntKind.u64.wrap ((IntKind.u64.wrap ((IntKind.u64.wrap ((IntKind.u64.wrap (rd l0 x6_1)) * (IntKind.u64.wrap (rd l1 x8_2)))) + (IntKind.u64.wrap (rd x5_2 (ji13))))) + x7_2)) 4294967296) % 4294967296)))) ?hg ?ho ?hn ?hr ?_; (case ho => rfl); (case hg => rfl); (case hn => rfl); (case hr => first | (go_simp; done) | (go_simp; rfl)); intro w19 hw; have hg : wr.grownBy w19 (some go16) := (by rw [hw]; exact HP18.2); have hp_ : Kd.R (Kd.int .u32) 79 w19 w.heap.size (fun _ => True) (.slice (some ⟨go16, 0, none⟩) x5_2.length co17) y541 := (by rw [hw, Ny541.out]; exact HP18.1); clear HP18; replace HO_5 := zA (hp_); replace HB := zA ((by rw [hw]; exact below_set (HB.out) GB16.out : Below w.heap.size w w19)); clear hg hw hp_)))
              go_roundg k2
              case measure => have := HK1.out; have := HK2.out; omega
              case rel => exact ⟨(y541), (IntKind.u64.wrap (Int.tdiv (IntKind.u64.wrap ((IntKind.u64.wrap ((IntKind.u64.wrap ((IntKind.u64.wrap (rd l0 x6_1)) * (IntKind.u64.wrap (rd l1 x8_2)))) + (IntKind.u64.wrap (rd x5_2 (ji13))))) + x7_2)) 4294967296)), (wrap64 (x8_2 + 1)), (by first | rfl | (simp; done) | (simp only [← hji13] <;> (first | rfl | simp)) | (simp [*]; done)), (by first | rfl | (simp; done) | (simp [*]; done)), H', ⟨by have := HK1.out; have := HK2.out; omega⟩, ⟨by exact zR HO_5⟩, ⟨by exact zB HB⟩⟩
             ·
              rw [if_neg c15] at H
              exact absurd H (by simp)
            ·
             rw [if_neg c14] at H
             exact absurd H (by simp)
           ·
            rw [if_neg c12] at H
            exact absurd H (by simp)
          ·
           rw [if_neg c11] at H
           exact absurd H (by simp)
         ·
          rw [if_neg c10] at H
          exact absurd H (by simp)
        ·
         rw [if_neg c9] at H
         have c9b0 : decide (x8_2 < (l1.length : Int)) = false := decide_eq_false c9
         clear c9
         obtain ⟨ji20, hji20⟩ : ∃ j_ : Int, (wrap64 (x6_1 + (l1.length : Int))) = j_ := ⟨_, rfl⟩
         replace H : (if 0 ≤ (ji20) then (if (ji20) < (x5_2.length : Int) then (codewrightref01_Mul.l0 k2 l0 l1 (x5_2.set ((ji20) : Int).toNat ((x7_2) % 4294967296)) (wrap64 (x6_1 + 1))) else (none)) else (none)) = some r := by first | (rw [hji20] at H; exact H) | (simp only [hji20] at H ⊢; exact H)
         have hji20w : (IntKind.i64.wrap (x6_1 + (l1.length : Int))) = ji20 := (i64_w _).trans hji20
         by_cases c21 : 0 ≤ (ji20)
         ·
          rw [if_pos c21] at H
          have c21b0 : decide (0 ≤ (ji20)) = true := decide_eq_true c21
          clear c21
          by_cases c22 : (ji20) < (x5_2.length : Int)
          ·
           rw [if_pos c22] at H
           have c22b0 : decide ((ji20) < (x5_2.length : Int)) = true := decide_eq_true c22
           clear c22
           obtain ⟨y542, hy542⟩ : ∃ y_ : List Int, y_ = (x5_2.set ((ji20) : Int).toNat ((x7_2) % 4294967296)) := ⟨_, rfl⟩
           replace H : (codewrightref01_Mul.l0 k2 l0 l1 y542 (wrap64 (x6_1 + 1))) = some r := by first | (rw [hy542]; with_reducible exact H) | (have H := (Option.bind_some _ _).symm.trans H; first | (rw [hy542]; with_reducible exact H) | with_reducible exact H) | (rw [hy542]; exact H) | exact H
           have Ny542 := zA hy542
           clear hy542
           have H' := zA H
           clear H
           have p23 : 0 ≤ ((ji20) : Int) := of_decide_eq_true (by assumption)
           have q23 : ((ji20) : Int) < ((x5_2.length : Int) : Int) := of_decide_eq_true (by assumption)
           obtain ⟨go23, co23, eo23, gb23, gl23, cl23, HG23⟩ := Kd.R_form HO_5.out (by omega)
           (first | cases eo23 | (injection eo23 with ea_ en_ ec_; (first | subst ea_ | (injection ea_ with ea_; subst ea_)); subst ec_; clear en_))
           have GB23 := zA gb23
           have GG23 := zA HG23
           clear gb23 gl23 HG23
           obtain ⟨hx23_0, hf23_0⟩ := Kd.R_celln 0 HO_5.out ((ji20) : Int) p23 q23
           replace p23 := eq_true p23
           replace q23 := eq_true q23
           have HP24 := Kd.R_putg HO_5.out ((ji20) : Int) ((x7_2) % 4294967296)
           go_wp2_with (first | ((with_reducible refine gate_store (t := 79) (p := 66) rfl ?_); (try (rw [drewN_self wr]; generalize hq_ : World.drewN wr _ = wr; have n0_ := zA (Kd.R_at hq_ HO_5.out); have n1_ := zA (below_at hq_ HB.out); clear hq_ HO_5 HB; have HO_5 := n0_; have HB := n1_; clear n0_ n1_; (try (have HP24 := Kd.R_putg HO_5.out ((ji20) : Int) ((x7_2) % 4294967296))))); (try (have hxn_ := Kd.R_celln 0 HO_5.out ((ji20) : Int) (of_eq_true p23) (of_eq_true q23); clear hx23_0 hf23_0; have hx23_0 := hxn_.1; have hf23_0 := hxn_.2; clear hxn_; (try simp only [Int.toNat_natCast] at hx23_0 hf23_0))); refine store_event (t := 79) (p := 66) (v := ?vo_w25) (w1 := (wr.setCell ⟨go23, ((ji20) : Int).toNat, none⟩ (.int .u32 ((x7_2) % 4294967296)))) ?hg ?ho ?hn ?hr ?_; (case ho => rfl); (case hg => rfl); (case hn => rfl); (case hr => first | (go_simp; done) | (go_simp; rfl)); intro w25 hw; have hg : wr.grownBy w25 (some go23) := (by rw [hw]; exact HP24.2); have hp_ : Kd.R (Kd.int .u32) 79 w25 w.heap.size (fun _ => True) (.slice (some ⟨go23, 0, none⟩) x5_2.length co23) y542 := (by rw [hw, Ny542.out]; exact HP24.1); clear HP24; replace HO_5 := zA (hp_); replace HB := zA ((by rw [hw]; exact below_set (HB.out) GB23.out : Below w.heap.size w w25)); clear hg hw hp_))
           repeat (go_quiet (first | ((with_reducible refine gate_store (t := 79) (p := 66) rfl ?_); (try (rw [drewN_self wr]; generalize hq_ : World.drewN wr _ = wr; have n0_ := zA (Kd.R_at hq_ HO_5.out); have n1_ := zA (below_at hq_ HB.out); clear hq_ HO_5 HB; have HO_5 := n0_; have HB := n1_; clear n0_ n1_; (try (have HP24 := Kd.R_putg HO_5.out ((ji20) : Int) ((x7_2) % 4294967296))))); (try (have hxn_ := Kd.R_celln 0 HO_5.out ((ji20) : Int) (of_eq_true p23) (of_eq_true q23); clear hx23_0 hf23_0; have hx23_0 := hxn_.1; have hf23_0 := hxn_.2; clear hxn_; (try simp only [Int.toNat_natCast] at hx23_0 hf23_0))); refine store_event (t := 79) (p := 66) (v := ?vo_w25) (w1 := (wr.setCell ⟨go23, ((ji20) : Int).toNat, none⟩ (.int .u32 ((x7_2) % 4294967296)))) ?hg ?ho ?hn ?hr ?_; (case ho => rfl); (case hg => rfl); (case hn => rfl); (case hr => first | (go_simp; done) | (go_simp; rfl)); intro w25 hw; have hg : wr.grownBy w25 (some go23) := (by rw [hw]; exact HP24.2); have hp_ : Kd.R (Kd.int .u32) 79 w25 w.heap.size (fun _ => True) (.slice (some ⟨go23, 0, none⟩) x5_2.length co23) y542 := (by rw [hw, Ny542.out]; exact HP24.1); clear HP24; replace HO_5 := zA (hp_); replace HB := zA ((by rw [hw]; exact below_set (HB.out) GB23.out : Below w.heap.size w w25)); clear hg hw hp_)); try go_wp2_with (first | ((with_reducible refine gate_store (t := 79) (p := 66) rfl ?_); (try (rw [drewN_self wr]; generalize hq_ : World.drewN wr _ = wr; have n0_ := zA (Kd.R_at hq_ HO_5.out); have n1_ := zA (below_at hq_ HB.out); clear hq_ HO_5 HB; have HO_5 := n0_; have HB := n1_; clear n0_ n1_; (try (have HP24 := Kd.R_putg HO_5.out ((ji20) : Int) ((x7_2) % 4294967296))))); (try (have hxn_ := Kd.R_celln 0 HO_5.out ((ji20) : Int) (of_eq_true p23) (of_eq_true q23); clear hx23_0 hf23_0; have hx23_0 := hxn_.1; have hf23_0 := hxn_.2; clear hxn_; (try simp only [Int.toNat_natCast] at hx23_0 hf23_0))); refine store_event (t := 79) (p := 66) (v := ?vo_w25) (w1 := (wr.setCell ⟨go23, ((ji20) : Int).toNat, none⟩ (.int .u32 ((x7_2) % 4294967296)))) ?hg ?ho ?hn ?hr ?_; (case ho => rfl); (case hg => rfl); (case hn => rfl); (case hr => first | (go_simp; done) | (go_simp; rfl)); intro w25 hw; have hg : wr.grownBy w25 (some go23) := (by rw [hw]; exact HP24.2); have hp_ : Kd.R (Kd.int .u32) 79 w25 w.heap.size (fun _ => True) (.slice (some ⟨go23, 0, none⟩) x5_2.length co23) y542 := (by rw [hw, Ny542.out]; exact HP24.1); clear HP24; replace HO_5 := zA (hp_); replace HB := zA ((by rw [hw]; exact below_set (HB.out) GB23.out : Below w.heap.size w w25)); clear hg hw hp_)))
           go_roundg k2
           case measure => have := HK1.out; have := HK2.out; omega
           case rel => exact ⟨(y542), (wrap64 (x6_1 + 1)), (by first | rfl | (simp; done) | (simp [*]; done)), H', ⟨by have := HK1.out; have := HK2.out; omega⟩, ⟨by exact zR HO_5⟩, ⟨by exact zB HB⟩⟩
          ·
           rw [if_neg c22] at H
           exact absurd H (by simp)
         ·
          rw [if_neg c21] at H
          exact absurd H (by simp)
     ·
      rw [if_neg c8] at H
      have c8b0 : decide (x6_1 < (l0.length : Int)) = false := decide_eq_false c8
      clear c8
      replace H := Option.bind_eq_some_iff.mp H
      obtain ⟨t535, A260, H⟩ := H
      replace H : (some t535) = some r := H
      have A26 := zA A260
      clear A260
      obtain rfl := Option.some.inj H
      obtain ⟨Ao27, co27, eo27⟩ := Kd.R_slice HO_5.out
      subst eo27
      go_wp2_with (first | (go_at_call 59; (with_reducible refine (codewrightref01_Trim.calls k1 _ _ x5_1 t535 _ ?side1 ?side2 A26.out).mono ?_); (case side1 => exact zC ((Kd.R_reads' HO_5.out).2.2)); (case side2 => exact (Kd.R_reads' HO_5.out).2.1); rintro e w28 ⟨v536, rfl, ho0, hb⟩; have HO537 := zA (Kd.R_lower (Kd.R_new' ho0 (Kd.R_lt (by exact zR HO_5))) (below_size (by exact zB HB))); replace HO_5 := zA (Kd.R_elder' (by exact zR HO_5) (Kd.R_base ho0) hb); replace HB := zA (below_step (by exact zB HB) hb); (try clear hb ho0)))
      repeat (go_quiet (first | (go_at_call 59; (with_reducible refine (codewrightref01_Trim.calls k1 _ _ x5_1 t535 _ ?side1 ?side2 A26.out).mono ?_); (case side1 => exact zC ((Kd.R_reads' HO_5.out).2.2)); (case side2 => exact (Kd.R_reads' HO_5.out).2.1); rintro e w28 ⟨v536, rfl, ho0, hb⟩; have HO537 := zA (Kd.R_lower (Kd.R_new' ho0 (Kd.R_lt (by exact zR HO_5))) (below_size (by exact zB HB))); replace HO_5 := zA (Kd.R_elder' (by exact zR HO_5) (Kd.R_base ho0) hb); replace HB := zA (below_step (by exact zB HB) hb); (try clear hb ho0))); try go_wp2_with (first | (go_at_call 59; (with_reducible refine (codewrightref01_Trim.calls k1 _ _ x5_1 t535 _ ?side1 ?side2 A26.out).mono ?_); (case side1 => exact zC ((Kd.R_reads' HO_5.out).2.2)); (case side2 => exact (Kd.R_reads' HO_5.out).2.1); rintro e w28 ⟨v536, rfl, ho0, hb⟩; have HO537 := zA (Kd.R_lower (Kd.R_new' ho0 (Kd.R_lt (by exact zR HO_5))) (below_size (by exact zB HB))); replace HO_5 := zA (Kd.R_elder' (by exact zR HO_5) (Kd.R_base ho0) hb); replace HB := zA (below_step (by exact zB HB) hb); (try clear hb ho0))))
      go_ret
      exact ⟨_, by first | rfl | (simp [errW_none, errW_some] <;> rfl) | (simp only [← hji3]; first | rfl | (simp [errW_none, errW_some] <;> rfl)) | (simp [*, errW_none, errW_some] <;> rfl), by (with_reducible repeat (first | apply Kd.R_alloc | apply Kd.R_drewN | apply Kd.R_drew)); exact Kd.R_mono HO537.out (fun _ hk => trivial), by exact zB HB⟩
  ·
   rw [if_neg c5] at H
   exact absurd H (by simp)
 ·
  rw [if_neg c4] at H
  exact absurd H (by simp)
/-! ### codewrightref02_Trim: function 83 -/
def codewrightref02_Trim.f (k : Nat) (a0_0 : Bool) (l0_1 : List Int) (l0_2 : List Int) : Option (Bool × List Int × List Int) := (codewrightref02_Make.f k a0_0 l0_1 l0_2).bind fun bt545 => (some (bt545.1, bt545.2.1, bt545.2.2))
set_option maxHeartbeats 8000000 in
set_option maxRecDepth 100000 in
theorem codewrightref02_Trim.calls (k : Nat) (a0_0 : Bool) (A0_1 : Option Addr) (c0_1 : Nat) (l0_1 : List Int) (A0_2 : Option Addr) (c0_2 : Nat) (l0_2 : List Int) (r1 : Bool) (r2 : List Int) (r3 : List Int) (w : World) (hr0_1 : Kd.C (Kd.int .u32) w A0_1 l0_1.length l0_1) (hc0_1 : l0_1.length ≤ c0_1) (hr0_2 : Kd.C (Kd.int .u32) w A0_2 l0_2.length l0_2) (hc0_2 : l0_2.length ≤ c0_2) (h : codewrightref02_Trim.f k a0_0 l0_1 l0_2 = some (r1, r2, r3)) :
  Calls Try.prog 83 #[.agg #[.bool a0_0, .slice A0_1 l0_1.length c0_1, .slice A0_2 l0_2.length c0_2]] w fun e w' => ∃ v1_ v2_ : Value, e = .returned (.agg #[.bool r1, v1_, v2_]) ∧ Kd.R (Kd.int .u32) 79 w' w.heap.size (fun k_ => some k_ ≠ (v2_ : Value).ownBlock) v1_ r2 ∧ Kd.R (Kd.int .u32) 79 w' w.heap.size (fun k_ => some k_ ≠ (v1_ : Value).ownBlock) v2_ r3 ∧ Below w.heap.size w w' := by
 have hu52 := Try.underlying52
 have HR0_1 := zA hr0_1
 have HC0_1 := zA hc0_1
 clear hr0_1 hc0_1
 have HR0_2 := zA hr0_2
 have HC0_2 := zA hc0_2
 clear hr0_2 hc0_2
 have HB := zA (Below.refl w.heap.size w)
 have H : ((codewrightref02_Make.f k a0_0 l0_1 l0_2).bind fun bt545 => (some (bt545.1, bt545.2.1, bt545.2.2))) = some (r1, r2, r3) := h
 clear h
 replace H := Option.bind_eq_some_iff.mp H
 obtain ⟨⟨t545, t546, t549⟩, A20, H⟩ := H
 replace H : (some (t545, t546, t549)) = some (r1, r2, r3) := H
 have A2 := zA A20
 clear A20
 simp only [Option.some.injEq, Prod.mk.injEq] at H
 obtain ⟨rfl, rfl, rfl⟩ := H
 go_enter Try.func83, Try.ntmps83
 go_wp2_with (first | ((with_reducible refine gate_dst (N := 1) rfl ?_); refine box_event ?hg (N := 1) ?hd (cs := #[.bool a0_0, .slice A0_1 l0_1.length c0_1, .slice A0_2 l0_2.length c0_2]) (t := 52) ?hr ?_; (case hd => rfl); (case hg => rfl); (case hr => first | (go_simp; done) | (go_simp; rfl)); intro gb543 hg w3 hbox hb; have BK543 := zA (hbox); have GW543 := zA ((by rw [hg]; exact (below_size (by exact zB HB)) : w.heap.size ≤ gb543)); have GE543 := zA ((by rw [hg]; exact (below_size (by exact zB HB)) : w.heap.size ≤ gb543)); replace HB := zA (below_step (by exact zB HB) hb); clear hb hbox hg) | ((with_reducible refine gate_dst (N := 2) rfl ?_); refine box_event ?hg (N := 2) ?hd (cs := #[.bool false, .slice none 0 0, .slice none 0 0]) (t := 52) ?hr ?_; (case hd => rfl); (case hg => rfl); (case hr => first | (go_simp; done) | (go_simp; rfl)); intro gb544 hg w4 hbox hb; have BK544 := zA (hbox); have GW544 := zA ((by rw [hg]; exact (below_size (by repeat (first | (with_reducible first | exact HB.out | apply below_alloc | apply pw_below_drewN | apply below_drew1 | refine below_set ?_ GE543.out) | exact HB.out))) : w.heap.size ≤ gb544)); have GE544 := zA ((by rw [hg]; exact (below_size (by repeat (first | (with_reducible first | exact HB.out | apply below_alloc | apply pw_below_drewN | apply below_drew1 | refine below_set ?_ GE543.out) | exact HB.out))) : w.heap.size ≤ gb544)); replace HB := zA (below_step (by repeat (first | (with_reducible first | exact HB.out | apply below_alloc | apply pw_below_drewN | apply below_drew1 | refine below_set ?_ GE543.out) | exact HB.out)) hb); have NB543_544 := zA ((by rw [hg]; exact Nat.ne_of_lt (blk_lt (g := gb543) (o := .cells #[.bool a0_0, .slice A0_1 l0_1.length c0_1, .slice A0_2 l0_2.length c0_2] 52 (0, 0)) (by exact zK BK543)) : gb543 ≠ gb544)); have NB544_543 := zA ((by rw [hg]; exact Nat.ne_of_gt (blk_lt (g := gb543) (o := .cells #[.bool a0_0, .slice A0_1 l0_1.length c0_1, .slice A0_2 l0_2.length c0_2] 52 (0, 0)) (by exact zK BK543)) : gb544 ≠ gb543)); replace BK543 := zA (blk_below (g := gb543) (o := .cells #[.bool a0_0, .slice A0_1 l0_1.length c0_1, .slice A0_2 l0_2.length c0_2] 52 (0, 0)) (by exact zK BK543) hb); clear hb hbox hg; have hnb5 := NB543_544.out; have hnc5 := NB544_543.out; have hcz6_0 : w4.cell? ⟨gb543, 0, none⟩ = some (.bool a0_0) := (blk_cell BK543.out 0).trans rfl; have hcz6_1 : w4.cell? ⟨gb543, 1, none⟩ = some (.slice A0_1 l0_1.length c0_1) := (blk_cell BK543.out 1).trans rfl; have hcz6_2 : w4.cell? ⟨gb543, 2, none⟩ = some (.slice A0_2 l0_2.length c0_2) := (blk_cell BK543.out 2).trans rfl; have hfz6_0 := blk_frozen BK543.out 0; have hfz6_1 := blk_frozen BK543.out 1; have hfz6_2 := blk_frozen BK543.out 2) | ((with_reducible refine gate_callee (f := 84) rfl ?_); refine goesL_ (some 9) rfl rfl Try.func84 (by kernel_rfl) rfl #[.bool a0_0, .slice A0_1 l0_1.length c0_1, .slice A0_2 l0_2.length c0_2] rfl (by (try simp only [List.map_toArray, List.map_cons, List.map_nil]); first | done | rfl | (simp only [List.length_drop, List.length_take]; rfl)) ?_; (with_reducible refine (codewrightref02_Make.calls k a0_0 _ _ l0_1 _ _ l0_2 t545 t546 t549 _ ?side1 ?side2 ?side3 ?side4 A2.out).mono ?_); (case side1 => exact zC ((Kd.C_below HR0_1.out HB.out))); (case side2 => exact HC0_1.out); (case side3 => exact zC ((Kd.C_below HR0_2.out HB.out))); (case side4 => exact HC0_2.out); rintro e w7 ⟨v547, v550, rfl, ho0, ho1, hb⟩; refine ⟨_, rfl, ?_⟩; have HO548 := zA (Kd.R_lower ho0 (below_size (by repeat (first | (with_reducible first | exact HB.out | apply below_alloc | apply pw_below_drewN | apply below_drew1 | refine below_set ?_ GE543.out | refine below_set ?_ GE544.out) | exact HB.out)))); have HO551 := zA (Kd.R_lower ho1 (below_size (by repeat (first | (with_reducible first | exact HB.out | apply below_alloc | apply pw_below_drewN | apply below_drew1 | refine below_set ?_ GE543.out | refine below_set ?_ GE544.out) | exact HB.out)))); replace BK543 := zA (blk_below (g := gb543) (o := .cells #[.bool a0_0, .slice A0_1 l0_1.length c0_1, .slice A0_2 l0_2.length c0_2] 52 (0, 0)) (by exact zK BK543) hb); replace BK544 := zA (blk_below (g := gb544) (o := .cells #[.bool false, .slice none 0 0, .slice none 0 0] 52 (0, 0)) (by exact zK BK544) hb); replace HB := zA (below_step (by repeat (first | (with_reducible first | exact HB.out | apply below_alloc | apply pw_below_drewN | apply below_drew1 | refine below_set ?_ GE543.out | refine below_set ?_ GE544.out) | exact HB.out)) hb); (try clear hb ho0 ho1); have hcz8_0 : w7.cell? ⟨gb544, 0, none⟩ = some (.bool false) := (blk_cell BK544.out 0).trans rfl; have hcz8_1 : w7.cell? ⟨gb544, 1, none⟩ = some (.slice none 0 0) := (blk_cell BK544.out 1).trans rfl; have hcz8_2 : w7.cell? ⟨gb544, 2, none⟩ = some (.slice none 0 0) := (blk_cell BK544.out 2).trans rfl; have hfz8_0 := blk_frozen BK544.out 0; have hfz8_1 := blk_frozen BK544.out 1; have hfz8_2 := blk_frozen BK544.out 2; obtain ⟨Ao9, co9, eo9⟩ := Kd.R_slice HO548.out; subst eo9; obtain ⟨Ao10, co10, eo10⟩ := Kd.R_slice HO551.out; subst eo10))
 refine bodyPost_ret (results_cell_row rfl _ _ gb544 52 #[.bool t545, .slice Ao9 t546.length co9, .slice Ao10 t549.length co10] (0, 0) _ rfl (by (with_reducible repeat (first | refine blk_drewN ?_ _ | refine blk_drew ?_ | refine blk_alloc ?_ _)); refine blk_put (cs := #[.bool t545, .slice Ao9 t546.length co9, .slice none 0 0]) ?_ 2 _ rfl; (with_reducible repeat (first | refine blk_drewN ?_ _ | refine blk_drew ?_ | refine blk_alloc ?_ _)); refine blk_put (cs := #[.bool t545, .slice none 0 0, .slice none 0 0]) ?_ 1 _ rfl; (with_reducible repeat (first | refine blk_drewN ?_ _ | refine blk_drew ?_ | refine blk_alloc ?_ _)); refine blk_put (cs := #[.bool false, .slice none 0 0, .slice none 0 0]) ?_ 0 _ rfl; exact zK BK544) Try.underlying52 rfl (by kernel_rfl)) rfl ?_
 exact ⟨_, _, by first | rfl | (simp [errW_none, errW_some] <;> rfl) | (simp [*, errW_none, errW_some] <;> rfl), by (with_reducible repeat (first | apply Kd.R_alloc | apply Kd.R_drewN | apply Kd.R_drew)); exact Kd.R_mono (Kd.R_far (p := ⟨gb544, 2, none⟩) (Kd.R_far (p := ⟨gb544, 1, none⟩) (Kd.R_far (p := ⟨gb544, 0, none⟩) (Kd.R_types HO548.out BK544.out (by decide)) (fun _ hk => hk.2) (.bool t545)) (fun _ hk => hk.2) (.slice Ao9 t546.length co9)) (fun _ hk => hk.2) (.slice Ao10 t549.length co10)) (fun _ hk => hk.1), by (with_reducible repeat (first | apply Kd.R_alloc | apply Kd.R_drewN | apply Kd.R_drew)); exact Kd.R_mono (Kd.R_far (p := ⟨gb544, 2, none⟩) (Kd.R_far (p := ⟨gb544, 1, none⟩) (Kd.R_far (p := ⟨gb544, 0, none⟩) (Kd.R_types HO551.out BK544.out (by decide)) (fun _ hk => hk.2) (.bool t545)) (fun _ hk => hk.2) (.slice Ao9 t546.length co9)) (fun _ hk => hk.2) (.slice Ao10 t549.length co10)) (fun _ hk => hk.1), by repeat (first | (with_reducible first | exact HB.out | apply below_alloc | apply pw_below_drewN | apply below_drew1 | refine below_set ?_ GE543.out | refine below_set ?_ GE544.out) | exact HB.out)⟩
end Go.Proofs.Ytjignpnnmfdedaa.PChannelPatterns
