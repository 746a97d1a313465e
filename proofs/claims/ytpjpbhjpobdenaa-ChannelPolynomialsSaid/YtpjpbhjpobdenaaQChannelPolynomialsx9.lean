/- A part of the print of this row, cut down to what the row uses. -/
import Derived.Test.YtpjpbhjpobdenaaQChannelPolynomialsx0
import Derived.Test.YtpjpbhjpobdenaaQChannelPolynomialsx7
import Derived.Test.YtpjpbhjpobdenaaQChannelPolynomialsx8
import Derived.Test.YtpjpbhjpobdenaaQChannelPolynomialsWSq
-- printed by a scratch copy of the print, turned (wip/tools/turn_print.py)
namespace Go.Proofs.Ytpjpbhjpobdenaa.PNat
open Go.RowKit Go.Proofs.YtpjpbhjpobdenaaW.PrintWords Go.Proofs.YtpjpbhjpobdenaaW.PrintLast Go.Proofs.YtpjpbhjpobdenaaW.PrintMore
attribute [local go_sem] max2_int min2_int max_two min_two max_three min_three max_four min_four   -- for this text's walks alone
set_option linter.unusedVariables false
set_option linter.unusedSimpArgs false
/-! ### codewrightref01_shift: function 103 -/
def codewrightref01_shift.l0 : Nat → List Int → Int → List Int → Int → Int → Option (List Int)
 | 0, _, _, _, _, _ => none
 | k + 1, x0, x1, x5, x6, x7 => if x7 < (x0.length : Int) then (if 0 ≤ x7 then (if 0 ≤ (Int.tmod x1 32) then (if x5.length < 35184372088832 then (codewrightref01_shift.l0 k x0 x1 (x5 ++ [(Int.tmod (IntKind.u64.wrap ((shl .u64 (IntKind.u64.wrap (rd x0 x7)) (Int.tmod x1 32)) + x6)) 4294967296) % 4294967296]) (IntKind.u64.wrap (Int.tdiv (IntKind.u64.wrap ((shl .u64 (IntKind.u64.wrap (rd x0 x7)) (Int.tmod x1 32)) + x6)) 4294967296)) (wrap64 (x7 + 1))) else (none)) else (none)) else (none)) else (if x5.length < 35184372088832 then ((codewrightref01_Trim.f k (x5 ++ [(x6) % 4294967296])).bind fun t448 => (some t448)) else (none))
def codewrightref01_shift.f (k : Nat) (l0 : List Int) (a1 : Int) : Option (List Int) := if 0 ≤ (wrap64 (Int.tdiv a1 32)) then (if (wrap64 (Int.tdiv a1 32) : Int).toNat ≤ 70368744177664 then (codewrightref01_shift.l0 k l0 a1 (List.replicate (wrap64 (Int.tdiv a1 32) : Int).toNat 0) 0 0) else (none)) else (none)
set_option maxHeartbeats 8000000 in
set_option maxRecDepth 100000 in
theorem codewrightref01_shift.calls (k : Nat) (A0 : Option Addr) (c0 : Nat) (l0 : List Int) (a1 : Int) (r : List Int) (w : World) (hr0 : Kd.C (Kd.int .u32) w A0 l0.length l0) (hc0 : l0.length ≤ c0) (h : codewrightref01_shift.f k l0 a1 = some r) :
  Calls Try.prog 103 #[.slice A0 l0.length c0, .int .i64 a1] w fun e w' => ∃ v0_ : Value, e = .returned (v0_) ∧ Kd.R (Kd.int .u32) 85 w' w.heap.size (fun _ => True) v0_ r ∧ Below w.heap.size w w' := by
 have HR0 := zA hr0
 have HC0 := zA hc0
 clear hr0 hc0
 have HB := zA (Below.refl w.heap.size w)
 have H : (if 0 ≤ (wrap64 (Int.tdiv a1 32)) then (if (wrap64 (Int.tdiv a1 32) : Int).toNat ≤ 70368744177664 then (codewrightref01_shift.l0 k l0 a1 (List.replicate (wrap64 (Int.tdiv a1 32) : Int).toNat 0) 0 0) else (none)) else (none)) = some r := h
 clear h
 obtain ⟨ji3, hji3⟩ : ∃ j_ : Int, (wrap64 (Int.tdiv a1 32)) = j_ := ⟨_, rfl⟩
 replace H : (if 0 ≤ (ji3) then (if (ji3 : Int).toNat ≤ 70368744177664 then (codewrightref01_shift.l0 k l0 a1 (List.replicate (ji3 : Int).toNat 0) 0 0) else (none)) else (none)) = some r := by first | (rw [hji3] at H; exact H) | (simp only [hji3] at H ⊢; exact H)
 have hji3w : (IntKind.i64.wrap (Int.tdiv a1 32)) = ji3 := (i64_w _).trans hji3
 by_cases c4 : 0 ≤ (ji3)
 ·
  rw [if_pos c4] at H
  have c4b0 := eq_true c4
  have c4b1 : decide (0 ≤ (ji3)) = true := decide_eq_true c4
  clear c4
  by_cases c5 : (ji3 : Int).toNat ≤ 70368744177664
  ·
   rw [if_pos c5] at H
   have c5b0 := eq_true c5
   have c5b1 : decide ((ji3 : Int).toNat ≤ 70368744177664) = true := decide_eq_true c5
   clear c5
   obtain ⟨y438, hy438⟩ : ∃ y_ : List Int, y_ = (List.replicate (ji3 : Int).toNat 0) := ⟨_, rfl⟩
   replace H : (codewrightref01_shift.l0 k l0 a1 y438 0 0) = some r := by first | (rw [hy438]; with_reducible exact H) | (have H := (Option.bind_some _ _).symm.trans H; first | (rw [hy438]; with_reducible exact H) | with_reducible exact H) | (rw [hy438]; exact H) | exact H
   have Ny438 := zA hy438
   clear hy438
   have H' := zA H
   clear H
   go_enter Try.func103, Try.ntmps103
   go_wp2_with (first | ((with_reducible refine gate_dst (N := 11) rfl ?_); refine Kd.R_make (Kd.int .u32) _ 85 rfl (N := 11) rfl 38 _ _ rfl ji3 rfl rfl Try.underlying38 (.int .u32 0) 4 info85 rfl (by decide) (by omega) 0 (ok := fun _ => True) (okp := fun _ => True) rfl (fun _ hk => hk) trivial (of_decide_eq_true (by assumption)) (Nat.le_trans (Nat.mul_le_mul_right _ (of_decide_eq_true (by assumption) : ji3.toNat ≤ 70368744177664)) (by omega)) (Below.refl _ _) (Nat.le_refl _) ?_; intro v439 w6 ho7 hb hg_ hnew_; clear hg_ hnew_; (first | rw [← Ny438.out] at ho7 | (simp only [Int.reduceToNat] at ho7; rw [← Ny438.out] at ho7)); have HO440 := zA (Kd.R_lower ho7 (below_size (by exact zB HB))); replace HB := zA (below_step (by exact zB HB) hb); clear hb ho7))
   go_loopg [5, 6, 7] k (fun kq v5 v6 v7 w' => ∃ (x5_1 : List Int) (x6_1 : Int) (x7_1 : Int), v6 = .int .u64 x6_1 ∧ v7 = .int .i64 x7_1 ∧ Aside0 (codewrightref01_shift.l0 kq l0 a1 x5_1 x6_1 x7_1 = some r) ∧ Aside0 (kq ≤ k) ∧ Aside0 (Kd.R (Kd.int .u32) 85 w' w.heap.size (fun _ => True) v5 x5_1) ∧ Aside0 (Below w.heap.size w w'))
   case atStart => exact ⟨(y438), (0), (0), (by first | rfl | (simp; done) | (simp [*]; done)), (by first | rfl | (simp; done) | (simp [*]; done)), H', ⟨Nat.le_refl _⟩, ⟨by exact zR HO440⟩, ⟨by exact zB HB⟩⟩
   case round =>
    clear H'
    try clear c1
    try clear p2
    try clear c4
    try clear c4b0
    try clear c4b1
    try clear c5
    try clear c5b0
    try clear c5b1
    try clear p6
    obtain ⟨x5_1, x6_1, x7_1, rfl, rfl, HA, HK1, HO_5, HB⟩ := hrel
    cases gk with
    | zero => exact absurd HA.out (by simp [codewrightref01_shift.l0])
    | succ k1 =>
     have H := HA.out
     clear HA
     simp only [codewrightref01_shift.l0] at H
     by_cases c8 : x7_1 < (l0.length : Int)
     ·
      rw [if_pos c8] at H
      have c8b0 : decide (x7_1 < (l0.length : Int)) = true := decide_eq_true c8
      clear c8
      by_cases c9 : 0 ≤ x7_1
      ·
       rw [if_pos c9] at H
       have c9b0 : decide (0 ≤ x7_1) = true := decide_eq_true c9
       clear c9
       obtain ⟨ji10, hji10⟩ : ∃ j_ : Int, (Int.tmod a1 32) = j_ := ⟨_, rfl⟩
       replace H : (if 0 ≤ (ji10) then (if x5_1.length < 35184372088832 then (codewrightref01_shift.l0 k1 l0 a1 (x5_1 ++ [(Int.tmod (IntKind.u64.wrap ((shl .u64 (IntKind.u64.wrap (rd l0 x7_1)) (ji10)) + x6_1)) 4294967296) % 4294967296]) (IntKind.u64.wrap (Int.tdiv (IntKind.u64.wrap ((shl .u64 (IntKind.u64.wrap (rd l0 x7_1)) (ji10)) + x6_1)) 4294967296)) (wrap64 (x7_1 + 1))) else (none)) else (none)) = some r := by first | (rw [hji10] at H; exact H) | (simp only [hji10] at H ⊢; exact H)
       by_cases c11 : 0 ≤ (ji10)
       ·
        rw [if_pos c11] at H
        have c11b0 := eq_true c11
        have c11b1 : decide (0 ≤ (ji10)) = true := decide_eq_true c11
        clear c11
        obtain ⟨ji12, hji12⟩ : ∃ j_ : Int, (shl .u64 (IntKind.u64.wrap (rd l0 x7_1)) (ji10)) = j_ := ⟨_, rfl⟩
        replace H : (if x5_1.length < 35184372088832 then (codewrightref01_shift.l0 k1 l0 a1 (x5_1 ++ [(Int.tmod (IntKind.u64.wrap ((ji12) + x6_1)) 4294967296) % 4294967296]) (IntKind.u64.wrap (Int.tdiv (IntKind.u64.wrap ((ji12) + x6_1)) 4294967296)) (wrap64 (x7_1 + 1))) else (none)) = some r := by first | (rw [hji12] at H; exact H) | (simp only [hji12] at H ⊢; exact H)
        have hji12_ : (IntKind.u64.wrap ((IntKind.u64.wrap (rd l0 x7_1)) * 2 ^ min (ji10).toNat 64)) = ji12 := hji12
        have hji12z : (ji10) ≤ 64 → (IntKind.u64.wrap ((IntKind.u64.wrap (rd l0 x7_1)) * 2 ^ (ji10).toNat)) = ji12 := shl_small hji12
        by_cases c13 : x5_1.length < 35184372088832
        ·
         rw [if_pos c13] at H
         have LMc13 := zA c13
         clear c13
         obtain ⟨y442, hy442⟩ : ∃ y_ : List Int, y_ = (x5_1 ++ [(Int.tmod (IntKind.u64.wrap ((ji12) + x6_1)) 4294967296) % 4294967296]) := ⟨_, rfl⟩
         replace H : (codewrightref01_shift.l0 k1 l0 a1 y442 (IntKind.u64.wrap (Int.tdiv (IntKind.u64.wrap ((ji12) + x6_1)) 4294967296)) (wrap64 (x7_1 + 1))) = some r := by first | (rw [hy442]; with_reducible exact H) | (have H := (Option.bind_some _ _).symm.trans H; first | (rw [hy442]; with_reducible exact H) | with_reducible exact H) | (rw [hy442]; exact H) | exact H
         have Ny442 := zA hy442
         clear hy442
         have H' := zA H
         clear H
         have p441 : 0 ≤ (x7_1 : Int) := of_decide_eq_true (by assumption)
         have q441 : x7_1 < (l0.length : Int) := of_decide_eq_true (by assumption)
         obtain ⟨ad441, e441, hx441_0⟩ := Kd.at_int HR0.out x7_1 p441 q441
         cases e441
         replace hx441_0 := (HB.out.cell (World.block_lt_of_cell? w _ hx441_0)).trans hx441_0
         replace p441 := eq_true p441
         replace q441 := eq_true q441
         go_wp2_with (first | ((with_reducible refine gate_builtin (b := .append) (xs := #[.tmp 28, .tmp 32]) rfl ?_); at_builtin; refine Kd.R_append (Kd.int .u32) (w0 := w) w.heap.size rfl (.tmp 28) (.tmp 32) 38 85 (.int .u32 0) 4 rfl Try.underlying38 info85 rfl (by decide) (by omega) u5 x5_1 ((Int.tmod (IntKind.u64.wrap ((ji12) + x6_1)) 4294967296) % 4294967296) [.int .u32 ((Int.tmod (IntKind.u64.wrap ((ji12) + x6_1)) 4294967296) % 4294967296)] (fun _ => True) (fun _ => False) rfl rfl ?aP (fun _ hk => hk.elim) ?aF ?aO ?aB ?aS ?aL ?_; (case aP => exact rfl); (case aB => exact (by exact zB HB)); (case aF => exact (fun _ _ => trivial)); (case aO => exact (by exact zR HO_5)); (case aS => exact (below_size (by exact zB HB))); (case aL => have := LMc13.out; omega); intro v443 w14 ho hb hg hat; rw [← Ny442.out] at ho; have n0_ := zA (hb); have n1_ := zA (ho); clear HB; clear HO_5; have HB := n0_; have HO444 := n1_; clear n0_ n1_; clear ho hb hg hat))
         go_roundg k1
         case measure => have := HK1.out; omega
         case rel => exact ⟨(y442), (IntKind.u64.wrap (Int.tdiv (IntKind.u64.wrap ((ji12) + x6_1)) 4294967296)), (wrap64 (x7_1 + 1)), (by first | rfl | (simp; done) | (simp only [← hji12] <;> (first | rfl | simp)) | (simp [*]; done)), (by first | rfl | (simp; done) | (simp [*]; done)), H', ⟨by have := HK1.out; omega⟩, ⟨by exact zR HO444⟩, ⟨by exact zB HB⟩⟩
        ·
         rw [if_neg c13] at H
         exact absurd H (by simp)
       ·
        rw [if_neg c11] at H
        exact absurd H (by simp)
      ·
       rw [if_neg c9] at H
       exact absurd H (by simp)
     ·
      rw [if_neg c8] at H
      have c8b0 : decide (x7_1 < (l0.length : Int)) = false := decide_eq_false c8
      clear c8
      by_cases c15 : x5_1.length < 35184372088832
      ·
       rw [if_pos c15] at H
       have LMc15 := zA c15
       clear c15
       obtain ⟨y445, hy445⟩ : ∃ y_ : List Int, y_ = (x5_1 ++ [(x6_1) % 4294967296]) := ⟨_, rfl⟩
       replace H : ((codewrightref01_Trim.f k1 y445).bind fun t448 => (some t448)) = some r := by first | (rw [hy445]; with_reducible exact H) | (have H := (Option.bind_some _ _).symm.trans H; first | (rw [hy445]; with_reducible exact H) | with_reducible exact H) | (rw [hy445]; exact H) | exact H
       have Ny445 := zA hy445
       clear hy445
       replace H := Option.bind_eq_some_iff.mp H
       obtain ⟨t448, A160, H⟩ := H
       replace H : (some t448) = some r := H
       have A16 := zA A160
       clear A160
       obtain rfl := Option.some.inj H
       go_wp2_with (first | ((with_reducible refine gate_builtin (b := .append) (xs := #[.tmp 36, .tmp 39]) rfl ?_); at_builtin; refine Kd.R_append (Kd.int .u32) (w0 := w) w.heap.size rfl (.tmp 36) (.tmp 39) 38 85 (.int .u32 0) 4 rfl Try.underlying38 info85 rfl (by decide) (by omega) u5 x5_1 ((x6_1) % 4294967296) [.int .u32 ((x6_1) % 4294967296)] (fun _ => True) (fun _ => False) rfl rfl ?aP (fun _ hk => hk.elim) ?aF ?aO ?aB ?aS ?aL ?_; (case aP => exact rfl); (case aB => exact (by exact zB HB)); (case aF => exact (fun _ _ => trivial)); (case aO => exact (by exact zR HO_5)); (case aS => exact (below_size (by exact zB HB))); (case aL => have := LMc15.out; omega); intro v446 w17 ho hb hg hat; rw [← Ny445.out] at ho; have n0_ := zA (hb); have n1_ := zA (ho); clear HB; clear HO_5; have HB := n0_; have HO447 := n1_; clear n0_ n1_; clear ho hb hg hat; obtain ⟨Ao18, co18, eo18⟩ := Kd.R_slice HO447.out; subst eo18) | ((with_reducible refine gate_callee (f := 65) rfl ?_); refine goesL_ (some 41) rfl rfl Try.func65 (by kernel_rfl) rfl #[.slice Ao18 y445.length co18] rfl (by (try simp only [List.map_toArray, List.map_cons, List.map_nil]); first | done | rfl | (simp only [List.length_drop, List.length_take]; rfl)) ?_; (with_reducible refine (codewrightref01_Trim.calls k1 _ _ y445 t448 _ ?side1 ?side2 A16.out).mono ?_); (case side1 => exact zC ((Kd.R_reads' HO447.out).2.2)); (case side2 => exact (Kd.R_reads' HO447.out).2.1); rintro e w19 ⟨v449, rfl, ho0, hb⟩; refine ⟨_, rfl, ?_⟩; have HO450 := zA (Kd.R_lower (Kd.R_new' ho0 (Kd.R_lt (by exact zR HO447))) (below_size (by exact zB HB))); replace HO447 := zA (Kd.R_elder' (by exact zR HO447) (Kd.R_base ho0) hb); replace HB := zA (below_step (by exact zB HB) hb); (try clear hb ho0)))
       go_ret
       exact ⟨_, by first | rfl | (simp [errW_none, errW_some] <;> rfl) | (simp only [← hji3]; first | rfl | (simp [errW_none, errW_some] <;> rfl)) | (simp [*, errW_none, errW_some] <;> rfl), by (with_reducible repeat (first | apply Kd.R_alloc | apply Kd.R_drewN | apply Kd.R_drew)); exact Kd.R_mono HO450.out (fun _ hk => trivial), by exact zB HB⟩
      ·
       rw [if_neg c15] at H
       exact absurd H (by simp)
  ·
   rw [if_neg c5] at H
   exact absurd H (by simp)
 ·
  rw [if_neg c4] at H
  exact absurd H (by simp)
/-! ### codewrightref01_DivMod: function 86 -/
def codewrightref01_DivMod.l0 : Nat → List Int → List Int → List Int → Int → Option (List Int × List Int)
 | 0, _, _, _, _ => none
 | k + 1, x1, x4, x5, x7 => if x7 ≥ 0 then ((codewrightref01_shift.f k x1 x7).bind fun t459 => ((codewrightref01_Cmp.f k x5 t459).bind fun t462 => (if t462 ≥ 0 then ((codewrightref01_Sub.f k x5 t459).bind fun t463 => ((codewrightref01_shift.f k (([1] : List Int)) x7).bind fun t469 => ((codewrightref01_Add.f k x4 t469).bind fun t472 => (codewrightref01_DivMod.l0 k x1 t472 t463 (wrap64 (x7 - 1)))))) else (codewrightref01_DivMod.l0 k x1 x4 x5 (wrap64 (x7 - 1)))))) else ((codewrightref01_Trim.f k x4).bind fun t456 => (some (t456, x5)))
def codewrightref01_DivMod.f (k : Nat) (l0 : List Int) (l1 : List Int) : Option (List Int × List Int) := (codewrightref01_Trim.f k l0).bind fun t451 => ((codewrightref01_Bits.f k l0).bind fun t454 => ((codewrightref01_Bits.f k l1).bind fun t455 => (codewrightref01_DivMod.l0 k l1 ([] : List Int) t451 (wrap64 (t454 - t455)))))
set_option maxHeartbeats 8000000 in
set_option maxRecDepth 100000 in
theorem codewrightref01_DivMod.calls (k : Nat) (A0 : Option Addr) (c0 : Nat) (l0 : List Int) (A1 : Option Addr) (c1 : Nat) (l1 : List Int) (r1 : List Int) (r2 : List Int) (w : World) (hr0 : Kd.C (Kd.int .u32) w A0 l0.length l0) (hc0 : l0.length ≤ c0) (hr1 : Kd.C (Kd.int .u32) w A1 l1.length l1) (hc1 : l1.length ≤ c1) (h : codewrightref01_DivMod.f k l0 l1 = some (r1, r2)) :
  Calls Try.prog 86 #[.slice A0 l0.length c0, .slice A1 l1.length c1] w fun e w' => ∃ v0_ v1_ : Value, e = .returned (.tuple #[v0_, v1_]) ∧ Kd.R (Kd.int .u32) 85 w' w.heap.size (fun k_ => some k_ ≠ (v1_ : Value).ownBlock) v0_ r1 ∧ Kd.R (Kd.int .u32) 85 w' w.heap.size (fun k_ => some k_ ≠ (v0_ : Value).ownBlock) v1_ r2 ∧ Below w.heap.size w w' := by
 have HR0 := zA hr0
 have HC0 := zA hc0
 clear hr0 hc0
 have HR1 := zA hr1
 have HC1 := zA hc1
 clear hr1 hc1
 have HB := zA (Below.refl w.heap.size w)
 have H : ((codewrightref01_Trim.f k l0).bind fun t451 => ((codewrightref01_Bits.f k l0).bind fun t454 => ((codewrightref01_Bits.f k l1).bind fun t455 => (codewrightref01_DivMod.l0 k l1 ([] : List Int) t451 (wrap64 (t454 - t455)))))) = some (r1, r2) := h
 clear h
 replace H := Option.bind_eq_some_iff.mp H
 obtain ⟨t451, A30, H⟩ := H
 replace H : ((codewrightref01_Bits.f k l0).bind fun t454 => ((codewrightref01_Bits.f k l1).bind fun t455 => (codewrightref01_DivMod.l0 k l1 ([] : List Int) t451 (wrap64 (t454 - t455))))) = some (r1, r2) := H
 have A3 := zA A30
 clear A30
 replace H := Option.bind_eq_some_iff.mp H
 obtain ⟨t454, A40, H⟩ := H
 replace H : ((codewrightref01_Bits.f k l1).bind fun t455 => (codewrightref01_DivMod.l0 k l1 ([] : List Int) t451 (wrap64 (t454 - t455)))) = some (r1, r2) := H
 have A4 := zA A40
 clear A40
 replace H := Option.bind_eq_some_iff.mp H
 obtain ⟨t455, A50, H⟩ := H
 replace H : (codewrightref01_DivMod.l0 k l1 ([] : List Int) t451 (wrap64 (t454 - t455))) = some (r1, r2) := H
 have A5 := zA A50
 clear A50
 have H' := zA H
 clear H
 go_enter Try.func86, Try.ntmps86
 go_wp2_with (first | ((with_reducible refine gate_callee (f := 65) rfl ?_); refine goesL_ (some 10) rfl rfl Try.func65 (by kernel_rfl) rfl #[.slice A0 l0.length c0] rfl (by (try simp only [List.map_toArray, List.map_cons, List.map_nil]); first | done | rfl | (simp only [List.length_drop, List.length_take]; rfl)) ?_; (with_reducible refine (codewrightref01_Trim.calls k _ _ l0 t451 _ ?side1 ?side2 A3.out).mono ?_); (case side1 => exact zC (HR0.out)); (case side2 => exact HC0.out); rintro e w6 ⟨v452, rfl, ho0, hb⟩; refine ⟨_, rfl, ?_⟩; have HO453 := zA (Kd.R_lower ho0 (below_size (by exact zB HB))); replace HB := zA (below_step (by exact zB HB) hb); (try clear hb ho0)) | ((with_reducible refine gate_callee (f := 66) rfl ?_); refine goesL_ (some 12) rfl rfl Try.func66 (by kernel_rfl) rfl #[.slice A0 l0.length c0] rfl (by (try simp only [List.map_toArray, List.map_cons, List.map_nil]); first | done | rfl | (simp only [List.length_drop, List.length_take]; rfl)) ?_; (with_reducible refine (codewrightref01_Bits.calls k _ _ l0 t454 _ ?side1 ?side2 A4.out).mono ?_); (case side1 => exact zC ((Kd.C_below HR0.out HB.out))); (case side2 => exact HC0.out); rintro e w7 ⟨rfl, hb⟩; refine ⟨_, rfl, ?_⟩; replace HO453 := zA (Kd.R_below (by exact zR HO453) hb); replace HB := zA (below_step (by exact zB HB) hb); (try clear hb)) | ((with_reducible refine gate_callee (f := 66) rfl ?_); refine goesL_ (some 14) rfl rfl Try.func66 (by kernel_rfl) rfl #[.slice A1 l1.length c1] rfl (by (try simp only [List.map_toArray, List.map_cons, List.map_nil]); first | done | rfl | (simp only [List.length_drop, List.length_take]; rfl)) ?_; (with_reducible refine (codewrightref01_Bits.calls k _ _ l1 t455 _ ?side1 ?side2 A5.out).mono ?_); (case side1 => exact zC ((Kd.C_below HR1.out HB.out))); (case side2 => exact HC1.out); rintro e w8 ⟨rfl, hb⟩; refine ⟨_, rfl, ?_⟩; replace HO453 := zA (Kd.R_below (by exact zR HO453) hb); replace HB := zA (below_step (by exact zB HB) hb); (try clear hb)))
 go_loopg [4, 5, 7] k (fun kq v4 v5 v7 w' => ∃ (x4_1 : List Int) (x5_1 : List Int) (x7_1 : Int), v7 = .int .i64 x7_1 ∧ Aside0 (codewrightref01_DivMod.l0 kq l1 x4_1 x5_1 x7_1 = some (r1, r2)) ∧ Aside0 (kq ≤ k) ∧ Aside0 (Kd.R (Kd.int .u32) 85 w' w.heap.size (fun k_ => some k_ ≠ (v5 : Value).ownBlock) v4 x4_1) ∧ Aside0 (Kd.R (Kd.int .u32) 85 w' w.heap.size (fun k_ => some k_ ≠ (v4 : Value).ownBlock) v5 x5_1) ∧ Aside0 (Below w.heap.size w w'))
 case atStart => exact ⟨(([] : List Int)), (t451), (wrap64 (t454 - t455)), (by first | rfl | (simp; done) | (simp [*]; done)), H', ⟨Nat.le_refl _⟩, ⟨by first | exact Kd.R_nil _ _ _ _ _ | exact Kd.N_nil _ _ _ _ _ | exact Kd.V_nil _ _ _ _ _ | exact Kd.Q_nil _ _ _ _ _ | exact Kd.S_nil _ _ _ _ _⟩, ⟨by (with_reducible repeat (first | apply Kd.R_alloc | apply Kd.R_drewN | apply Kd.R_drew)); exact Kd.R_mono HO453.out (fun _ hk => (by simp [Value.ownBlock]))⟩, ⟨by exact zB HB⟩⟩
 case round =>
  clear H'
  try clear c1
  try clear p2
  try clear c6
  try clear p6
  try clear c8
  obtain ⟨x4_1, x5_1, x7_1, rfl, HA, HK1, HO_4, HO_5, HB⟩ := hrel
  cases gk with
  | zero => exact absurd HA.out (by simp [codewrightref01_DivMod.l0])
  | succ k1 =>
   have H := HA.out
   clear HA
   simp only [codewrightref01_DivMod.l0] at H
   by_cases c9 : x7_1 ≥ 0
   ·
    rw [if_pos c9] at H
    have c9b0 : decide (0 ≤ x7_1) = true := decide_eq_true c9
    clear c9
    replace H := Option.bind_eq_some_iff.mp H
    obtain ⟨t459, A100, H⟩ := H
    replace H : ((codewrightref01_Cmp.f k1 x5_1 t459).bind fun t462 => (if t462 ≥ 0 then ((codewrightref01_Sub.f k1 x5_1 t459).bind fun t463 => ((codewrightref01_shift.f k1 (([1] : List Int)) x7_1).bind fun t469 => ((codewrightref01_Add.f k1 x4_1 t469).bind fun t472 => (codewrightref01_DivMod.l0 k1 l1 t472 t463 (wrap64 (x7_1 - 1)))))) else (codewrightref01_DivMod.l0 k1 l1 x4_1 x5_1 (wrap64 (x7_1 - 1))))) = some (r1, r2) := H
    have A10 := zA A100
    clear A100
    replace H := Option.bind_eq_some_iff.mp H
    obtain ⟨t462, A110, H⟩ := H
    replace H : (if t462 ≥ 0 then ((codewrightref01_Sub.f k1 x5_1 t459).bind fun t463 => ((codewrightref01_shift.f k1 (([1] : List Int)) x7_1).bind fun t469 => ((codewrightref01_Add.f k1 x4_1 t469).bind fun t472 => (codewrightref01_DivMod.l0 k1 l1 t472 t463 (wrap64 (x7_1 - 1)))))) else (codewrightref01_DivMod.l0 k1 l1 x4_1 x5_1 (wrap64 (x7_1 - 1)))) = some (r1, r2) := H
    have A11 := zA A110
    clear A110
    by_cases c12 : t462 ≥ 0
    ·
     rw [if_pos c12] at H
     have c12b0 : decide (0 ≤ t462) = true := decide_eq_true c12
     clear c12
     replace H := Option.bind_eq_some_iff.mp H
     obtain ⟨t463, A130, H⟩ := H
     replace H : ((codewrightref01_shift.f k1 (([1] : List Int)) x7_1).bind fun t469 => ((codewrightref01_Add.f k1 x4_1 t469).bind fun t472 => (codewrightref01_DivMod.l0 k1 l1 t472 t463 (wrap64 (x7_1 - 1))))) = some (r1, r2) := H
     have A13 := zA A130
     clear A130
     obtain ⟨y466, hy466⟩ : ∃ y_ : List Int, y_ = (([1] : List Int)) := ⟨_, rfl⟩
     replace H : ((codewrightref01_shift.f k1 y466 x7_1).bind fun t469 => ((codewrightref01_Add.f k1 x4_1 t469).bind fun t472 => (codewrightref01_DivMod.l0 k1 l1 t472 t463 (wrap64 (x7_1 - 1))))) = some (r1, r2) := by first | (rw [hy466]; with_reducible exact H) | (have H := (Option.bind_some _ _).symm.trans H; first | (rw [hy466]; with_reducible exact H) | with_reducible exact H) | (rw [hy466]; exact H) | exact H
     have Ny466 := zA hy466
     clear hy466
     replace H := Option.bind_eq_some_iff.mp H
     obtain ⟨t469, A140, H⟩ := H
     replace H : ((codewrightref01_Add.f k1 x4_1 t469).bind fun t472 => (codewrightref01_DivMod.l0 k1 l1 t472 t463 (wrap64 (x7_1 - 1)))) = some (r1, r2) := H
     have A14 := zA A140
     clear A140
     replace H := Option.bind_eq_some_iff.mp H
     obtain ⟨t472, A150, H⟩ := H
     replace H : (codewrightref01_DivMod.l0 k1 l1 t472 t463 (wrap64 (x7_1 - 1))) = some (r1, r2) := H
     have A15 := zA A150
     clear A150
     have H' := zA H
     clear H
     go_wp2_with (first | ((with_reducible refine gate_callee (f := 103) rfl ?_); refine goesL_ (some 23) rfl rfl Try.func103 (by kernel_rfl) rfl #[.slice A1 l1.length c1, .int .i64 x7_1] rfl (by (try simp only [List.map_toArray, List.map_cons, List.map_nil]); first | done | rfl | (simp only [List.length_drop, List.length_take]; rfl)) ?_; (with_reducible refine (codewrightref01_shift.calls k1 _ _ l1 x7_1 t459 _ ?side1 ?side2 A10.out).mono ?_); (case side1 => exact zC ((Kd.C_below HR1.out HB.out))); (case side2 => exact HC1.out); rintro e w16 ⟨v460, rfl, ho0, hb⟩; refine ⟨_, rfl, ?_⟩; have HO461 := zA (Kd.R_lower (Kd.R_new' (Kd.R_new' ho0 (Kd.R_lt (by exact zR HO_4))) (Kd.R_lt (by exact zR HO_5))) (below_size (by exact zB HB))); replace HO_4 := zA (Kd.R_elder' (by exact zR HO_4) (Kd.R_base ho0) hb); replace HO_5 := zA (Kd.R_elder' (by exact zR HO_5) (Kd.R_base ho0) hb); replace HB := zA (below_step (by exact zB HB) hb); (try clear hb ho0); obtain ⟨Ao17, co17, eo17⟩ := Kd.R_slice HO_5.out; subst eo17; obtain ⟨Ao18, co18, eo18⟩ := Kd.R_slice HO461.out; subst eo18) | ((with_reducible refine gate_callee (f := 62) rfl ?_); refine goesL_ (some 26) rfl rfl Try.func62 (by kernel_rfl) rfl #[.slice Ao17 x5_1.length co17, .slice Ao18 t459.length co18] rfl (by (try simp only [List.map_toArray, List.map_cons, List.map_nil]); first | done | rfl | (simp only [List.length_drop, List.length_take]; rfl)) ?_; (with_reducible refine (codewrightref01_Cmp.calls k1 _ _ x5_1 _ _ t459 t462 _ ?side1 ?side2 ?side3 ?side4 A11.out).mono ?_); (case side1 => exact zC ((Kd.R_reads' HO_5.out).2.2)); (case side2 => exact (Kd.R_reads' HO_5.out).2.1); (case side3 => exact zC ((Kd.R_reads' HO461.out).2.2)); (case side4 => exact (Kd.R_reads' HO461.out).2.1); rintro e w19 ⟨rfl, hb⟩; refine ⟨_, rfl, ?_⟩; replace HO_4 := zA (Kd.R_below (by exact zR HO_4) hb); replace HO_5 := zA (Kd.R_below (by exact zR HO_5) hb); replace HO461 := zA (Kd.R_below (by exact zR HO461) hb); replace HB := zA (below_step (by exact zB HB) hb); (try clear hb)) | ((with_reducible refine gate_callee (f := 63) rfl ?_); refine goesL_ (some 30) rfl rfl Try.func63 (by kernel_rfl) rfl #[.slice Ao17 x5_1.length co17, .slice Ao18 t459.length co18] rfl (by (try simp only [List.map_toArray, List.map_cons, List.map_nil]); first | done | rfl | (simp only [List.length_drop, List.length_take]; rfl)) ?_; (with_reducible refine (codewrightref01_Sub.calls k1 _ _ x5_1 _ _ t459 t463 _ ?side1 ?side2 ?side3 ?side4 A13.out).mono ?_); (case side1 => exact zC ((Kd.R_reads' HO_5.out).2.2)); (case side2 => exact (Kd.R_reads' HO_5.out).2.1); (case side3 => exact zC ((Kd.R_reads' HO461.out).2.2)); (case side4 => exact (Kd.R_reads' HO461.out).2.1); rintro e w20 ⟨v464, rfl, ho0, hb⟩; refine ⟨_, rfl, ?_⟩; have HO465 := zA (Kd.R_lower (Kd.R_new' (Kd.R_new' (Kd.R_new' ho0 (Kd.R_lt (by exact zR HO_4))) (Kd.R_lt (by exact zR HO_5))) (Kd.R_lt (by exact zR HO461))) (below_size (by exact zB HB))); replace HO_4 := zA (Kd.R_elder' (by exact zR HO_4) (Kd.R_base ho0) hb); replace HO_5 := zA (Kd.R_elder' (by exact zR HO_5) (Kd.R_base ho0) hb); replace HO461 := zA (Kd.R_elder' (by exact zR HO461) (Kd.R_base ho0) hb); replace HB := zA (below_step (by exact zB HB) hb); (try clear hb ho0)) | ((with_reducible refine gate_dst (N := 32) rfl ?_); refine Kd.R_lit (Kd.int .u32) _ 85 ?hg (N := 32) ?hd (xs := ([1] : List Int)) (inner := [.int .u32 1]) (ok := fun _ => True) (okp := fun _ => True) ?hr ?hp (fun _ hk => hk) trivial (Below.refl _ _) (Nat.le_refl _) (by simp) ?_; (case hd => rfl); (case hg => rfl); (case hr => first | (go_simp; done) | (go_simp; rfl)); (case hp => exact (Reps.one (show Kd.M (Kd.int .u32) _ _ _ 1 [.int .u32 1] from rfl) (Reps.none _ _))); intro v467 w21 ho22 hb hg_ hnew_; clear hg_ hnew_; (first | rw [← Ny466.out] at ho22 | (simp only [Int.reduceToNat] at ho22; rw [← Ny466.out] at ho22)); have HO468 := zA (Kd.R_lower (Kd.R_new' (Kd.R_new' (Kd.R_new' (Kd.R_new' ho22 (Kd.R_lt (by exact zR HO_4))) (Kd.R_lt (by exact zR HO_5))) (Kd.R_lt (by exact zR HO461))) (Kd.R_lt (by exact zR HO465))) (below_size (by exact zB HB))); replace HO_4 := zA (Kd.R_elder' (by exact zR HO_4) (Kd.R_base ho22) hb); replace HO_5 := zA (Kd.R_elder' (by exact zR HO_5) (Kd.R_base ho22) hb); replace HO461 := zA (Kd.R_elder' (by exact zR HO461) (Kd.R_base ho22) hb); replace HO465 := zA (Kd.R_elder' (by exact zR HO465) (Kd.R_base ho22) hb); replace HB := zA (below_step (by exact zB HB) hb); clear hb ho22; obtain ⟨Ao23, co23, eo23⟩ := Kd.R_slice HO468.out; subst eo23) | ((with_reducible refine gate_callee (f := 103) rfl ?_); refine goesL_ (some 34) rfl rfl Try.func103 (by kernel_rfl) rfl #[.slice Ao23 y466.length co23, .int .i64 x7_1] rfl (by (try simp only [List.map_toArray, List.map_cons, List.map_nil]); first | done | rfl | (simp only [List.length_drop, List.length_take]; rfl)) ?_; (with_reducible refine (codewrightref01_shift.calls k1 _ _ y466 x7_1 t469 _ ?side1 ?side2 A14.out).mono ?_); (case side1 => exact zC ((Kd.R_reads' HO468.out).2.2)); (case side2 => exact (Kd.R_reads' HO468.out).2.1); rintro e w24 ⟨v470, rfl, ho0, hb⟩; refine ⟨_, rfl, ?_⟩; have HO471 := zA (Kd.R_lower (Kd.R_new' (Kd.R_new' (Kd.R_new' (Kd.R_new' (Kd.R_new' ho0 (Kd.R_lt (by exact zR HO_4))) (Kd.R_lt (by exact zR HO_5))) (Kd.R_lt (by exact zR HO461))) (Kd.R_lt (by exact zR HO465))) (Kd.R_lt (by exact zR HO468))) (below_size (by exact zB HB))); replace HO_4 := zA (Kd.R_elder' (by exact zR HO_4) (Kd.R_base ho0) hb); replace HO_5 := zA (Kd.R_elder' (by exact zR HO_5) (Kd.R_base ho0) hb); replace HO461 := zA (Kd.R_elder' (by exact zR HO461) (Kd.R_base ho0) hb); replace HO465 := zA (Kd.R_elder' (by exact zR HO465) (Kd.R_base ho0) hb); replace HO468 := zA (Kd.R_elder' (by exact zR HO468) (Kd.R_base ho0) hb); replace HB := zA (below_step (by exact zB HB) hb); (try clear hb ho0); obtain ⟨Ao25, co25, eo25⟩ := Kd.R_slice HO_4.out; subst eo25; obtain ⟨Ao26, co26, eo26⟩ := Kd.R_slice HO471.out; subst eo26) | ((with_reducible refine gate_callee (f := 61) rfl ?_); refine goesL_ (some 35) rfl rfl Try.func61 (by kernel_rfl) rfl #[.slice Ao25 x4_1.length co25, .slice Ao26 t469.length co26] rfl (by (try simp only [List.map_toArray, List.map_cons, List.map_nil]); first | done | rfl | (simp only [List.length_drop, List.length_take]; rfl)) ?_; (with_reducible refine (codewrightref01_Add.calls k1 _ _ x4_1 _ _ t469 t472 _ ?side1 ?side2 ?side3 ?side4 A15.out).mono ?_); (case side1 => exact zC ((Kd.R_reads' HO_4.out).2.2)); (case side2 => exact (Kd.R_reads' HO_4.out).2.1); (case side3 => exact zC ((Kd.R_reads' HO471.out).2.2)); (case side4 => exact (Kd.R_reads' HO471.out).2.1); rintro e w27 ⟨v473, rfl, ho0, hb⟩; refine ⟨_, rfl, ?_⟩; have HO474 := zA (Kd.R_lower (Kd.R_new' (Kd.R_new' (Kd.R_new' (Kd.R_new' (Kd.R_new' (Kd.R_new' ho0 (Kd.R_lt (by exact zR HO_4))) (Kd.R_lt (by exact zR HO_5))) (Kd.R_lt (by exact zR HO461))) (Kd.R_lt (by exact zR HO465))) (Kd.R_lt (by exact zR HO468))) (Kd.R_lt (by exact zR HO471))) (below_size (by exact zB HB))); replace HO_4 := zA (Kd.R_elder' (by exact zR HO_4) (Kd.R_base ho0) hb); replace HO_5 := zA (Kd.R_elder' (by exact zR HO_5) (Kd.R_base ho0) hb); replace HO461 := zA (Kd.R_elder' (by exact zR HO461) (Kd.R_base ho0) hb); replace HO465 := zA (Kd.R_elder' (by exact zR HO465) (Kd.R_base ho0) hb); replace HO468 := zA (Kd.R_elder' (by exact zR HO468) (Kd.R_base ho0) hb); replace HO471 := zA (Kd.R_elder' (by exact zR HO471) (Kd.R_base ho0) hb); replace HB := zA (below_step (by exact zB HB) hb); (try clear hb ho0)))
     go_roundg k1
     case measure => have := HK1.out; omega
     case rel => exact ⟨(t472), (t463), (wrap64 (x7_1 - 1)), (by first | rfl | (simp; done) | (simp [*]; done)), H', ⟨by have := HK1.out; omega⟩, ⟨by (with_reducible repeat (first | apply Kd.R_alloc | apply Kd.R_drewN | apply Kd.R_drew)); exact Kd.R_mono HO474.out (fun _ hk => hk.1.1.2)⟩, ⟨by (with_reducible repeat (first | apply Kd.R_alloc | apply Kd.R_drewN | apply Kd.R_drew)); exact Kd.R_mono HO465.out (fun _ hk => hk.2)⟩, ⟨by exact zB HB⟩⟩
    ·
     rw [if_neg c12] at H
     have c12b0 : decide (0 ≤ t462) = false := decide_eq_false c12
     clear c12
     have H' := zA H
     clear H
     go_wp2_with (first | ((with_reducible refine gate_callee (f := 103) rfl ?_); refine goesL_ (some 23) rfl rfl Try.func103 (by kernel_rfl) rfl #[.slice A1 l1.length c1, .int .i64 x7_1] rfl (by (try simp only [List.map_toArray, List.map_cons, List.map_nil]); first | done | rfl | (simp only [List.length_drop, List.length_take]; rfl)) ?_; (with_reducible refine (codewrightref01_shift.calls k1 _ _ l1 x7_1 t459 _ ?side1 ?side2 A10.out).mono ?_); (case side1 => exact zC ((Kd.C_below HR1.out HB.out))); (case side2 => exact HC1.out); rintro e w28 ⟨v460, rfl, ho0, hb⟩; refine ⟨_, rfl, ?_⟩; have HO461 := zA (Kd.R_lower (Kd.R_new' (Kd.R_new' ho0 (Kd.R_lt (by exact zR HO_4))) (Kd.R_lt (by exact zR HO_5))) (below_size (by exact zB HB))); replace HO_4 := zA (Kd.R_elder' (by exact zR HO_4) (Kd.R_base ho0) hb); replace HO_5 := zA (Kd.R_elder' (by exact zR HO_5) (Kd.R_base ho0) hb); replace HB := zA (below_step (by exact zB HB) hb); (try clear hb ho0); obtain ⟨Ao29, co29, eo29⟩ := Kd.R_slice HO_5.out; subst eo29; obtain ⟨Ao30, co30, eo30⟩ := Kd.R_slice HO461.out; subst eo30) | ((with_reducible refine gate_callee (f := 62) rfl ?_); refine goesL_ (some 26) rfl rfl Try.func62 (by kernel_rfl) rfl #[.slice Ao29 x5_1.length co29, .slice Ao30 t459.length co30] rfl (by (try simp only [List.map_toArray, List.map_cons, List.map_nil]); first | done | rfl | (simp only [List.length_drop, List.length_take]; rfl)) ?_; (with_reducible refine (codewrightref01_Cmp.calls k1 _ _ x5_1 _ _ t459 t462 _ ?side1 ?side2 ?side3 ?side4 A11.out).mono ?_); (case side1 => exact zC ((Kd.R_reads' HO_5.out).2.2)); (case side2 => exact (Kd.R_reads' HO_5.out).2.1); (case side3 => exact zC ((Kd.R_reads' HO461.out).2.2)); (case side4 => exact (Kd.R_reads' HO461.out).2.1); rintro e w31 ⟨rfl, hb⟩; refine ⟨_, rfl, ?_⟩; replace HO_4 := zA (Kd.R_below (by exact zR HO_4) hb); replace HO_5 := zA (Kd.R_below (by exact zR HO_5) hb); replace HO461 := zA (Kd.R_below (by exact zR HO461) hb); replace HB := zA (below_step (by exact zB HB) hb); (try clear hb)))
     go_roundg k1
     case measure => have := HK1.out; omega
     case rel => exact ⟨(x4_1), (x5_1), (wrap64 (x7_1 - 1)), (by first | rfl | (simp; done) | (simp [*]; done)), H', ⟨by have := HK1.out; omega⟩, ⟨by (with_reducible repeat (first | apply Kd.R_alloc | apply Kd.R_drewN | apply Kd.R_drew)); exact Kd.R_mono HO_4.out (fun _ hk => hk.1)⟩, ⟨by (with_reducible repeat (first | apply Kd.R_alloc | apply Kd.R_drewN | apply Kd.R_drew)); exact Kd.R_mono HO_5.out (fun _ hk => hk.1)⟩, ⟨by exact zB HB⟩⟩
   ·
    rw [if_neg c9] at H
    have c9b0 : decide (0 ≤ x7_1) = false := decide_eq_false c9
    clear c9
    replace H := Option.bind_eq_some_iff.mp H
    obtain ⟨t456, A320, H⟩ := H
    replace H : (some (t456, x5_1)) = some (r1, r2) := H
    have A32 := zA A320
    clear A320
    simp only [Option.some.injEq, Prod.mk.injEq] at H
    obtain ⟨rfl, rfl⟩ := H
    obtain ⟨Ao33, co33, eo33⟩ := Kd.R_slice HO_4.out
    subst eo33
    go_wp2_with (first | ((with_reducible refine gate_callee (f := 65) rfl ?_); refine goesL_ (some 37) rfl rfl Try.func65 (by kernel_rfl) rfl #[.slice Ao33 x4_1.length co33] rfl (by (try simp only [List.map_toArray, List.map_cons, List.map_nil]); first | done | rfl | (simp only [List.length_drop, List.length_take]; rfl)) ?_; (with_reducible refine (codewrightref01_Trim.calls k1 _ _ x4_1 t456 _ ?side1 ?side2 A32.out).mono ?_); (case side1 => exact zC ((Kd.R_reads' HO_4.out).2.2)); (case side2 => exact (Kd.R_reads' HO_4.out).2.1); rintro e w34 ⟨v457, rfl, ho0, hb⟩; refine ⟨_, rfl, ?_⟩; have HO458 := zA (Kd.R_lower (Kd.R_new' (Kd.R_new' ho0 (Kd.R_lt (by exact zR HO_4))) (Kd.R_lt (by exact zR HO_5))) (below_size (by exact zB HB))); replace HO_4 := zA (Kd.R_elder' (by exact zR HO_4) (Kd.R_base ho0) hb); replace HO_5 := zA (Kd.R_elder' (by exact zR HO_5) (Kd.R_base ho0) hb); replace HB := zA (below_step (by exact zB HB) hb); (try clear hb ho0)))
    go_ret2
    exact ⟨_, _, by first | rfl | (simp [errW_none, errW_some] <;> rfl) | (simp [*, errW_none, errW_some] <;> rfl), by (with_reducible repeat (first | apply Kd.R_alloc | apply Kd.R_drewN | apply Kd.R_drew)); exact Kd.R_mono HO458.out (fun _ hk => hk.2), by (with_reducible repeat (first | apply Kd.R_alloc | apply Kd.R_drewN | apply Kd.R_drew)); exact Kd.R_mono HO_5.out (fun _ hk => hk.2), by exact zB HB⟩
/-! ### codewrightref01_Gcd: function 85 -/
def codewrightref01_Gcd.l0 : Nat → List Int → List Int → Option (List Int)
 | 0, _, _ => none
 | k + 1, x0, x1 => (codewrightref01_Zero.f k x1).bind fun t475 => (if t475 = true then ((codewrightref01_Trim.f k x0).bind fun t476 => (some t476)) else ((codewrightref01_DivMod.f k x0 x1).bind fun bt479 => (codewrightref01_Gcd.l0 k x1 bt479.2)))
def codewrightref01_Gcd.f (k : Nat) (l0 : List Int) (l1 : List Int) : Option (List Int) := codewrightref01_Gcd.l0 k l0 l1
set_option maxHeartbeats 8000000 in
set_option maxRecDepth 100000 in
theorem codewrightref01_Gcd.calls (k : Nat) (P0_ : Nat → Prop) (A0 : Option Addr) (c0 : Nat) (l0 : List Int) (P1_ : Nat → Prop) (A1 : Option Addr) (c1 : Nat) (l1 : List Int) (r : List Int) (w : World) (hs0 : Kd.V (Kd.int .u32) 85 w w.heap.size (fun k_ => P0_ k_) (.slice A0 l0.length c0) l0) (hs1 : Kd.V (Kd.int .u32) 85 w w.heap.size (fun k_ => P1_ k_) (.slice A1 l1.length c1) l1) (h : codewrightref01_Gcd.f k l0 l1 = some r) :
  Calls Try.prog 85 #[.slice A0 l0.length c0, .slice A1 l1.length c1] w fun e w' => ∃ v0_ : Value, e = .returned (v0_) ∧ Kd.R (Kd.int .u32) 85 w' w.heap.size (fun k_ => (w.heap.size ≤ k_)) v0_ r ∧ Below w.heap.size w w' := by
 have HO0 := zA (show Kd.V (Kd.int .u32) 85 w w.heap.size (fun k_ => ((P0_ k_ ∨ P1_ k_) ∨ w.heap.size ≤ k_)) (.slice A0 l0.length c0) l0 from Kd.V_mono hs0 (fun k_ hk => .inl (.inl hk)))
 have HO1 := zA (show Kd.V (Kd.int .u32) 85 w w.heap.size (fun k_ => ((P0_ k_ ∨ P1_ k_) ∨ w.heap.size ≤ k_)) (.slice A1 l1.length c1) l1 from Kd.V_mono hs1 (fun k_ hk => .inl (.inr hk)))
 have HB := zA (Below.refl w.heap.size w)
 have H : (codewrightref01_Gcd.l0 k l0 l1) = some r := h
 clear h
 have H' := zA H
 clear H
 go_enter Try.func85, Try.ntmps85
 go_wp2
 go_loopg [0, 1] k (fun kq v0 v1 w' => ∃ (x0_1 : List Int) (x1_1 : List Int), Aside0 (codewrightref01_Gcd.l0 kq x0_1 x1_1 = some r) ∧ Aside0 (kq ≤ k) ∧ Aside0 (Kd.V (Kd.int .u32) 85 w' w.heap.size (fun k_ => ((P0_ k_ ∨ P1_ k_) ∨ w.heap.size ≤ k_)) v0 x0_1) ∧ Aside0 (Kd.V (Kd.int .u32) 85 w' w.heap.size (fun k_ => ((P0_ k_ ∨ P1_ k_) ∨ w.heap.size ≤ k_)) v1 x1_1) ∧ Aside0 (Below w.heap.size w w'))
 case atStart => exact ⟨(l0), (l1), H', ⟨Nat.le_refl _⟩, ⟨by exact zV HO0⟩, ⟨by exact zV HO1⟩, ⟨by exact zB HB⟩⟩
 case round =>
  clear H'
  try clear c1
  try clear p2
  obtain ⟨x0_1, x1_1, HA, HK1, HO_0, HO_1, HB⟩ := hrel
  cases gk with
  | zero => exact absurd HA.out (by simp [codewrightref01_Gcd.l0])
  | succ k1 =>
   have H := HA.out
   clear HA
   simp only [codewrightref01_Gcd.l0] at H
   replace H := Option.bind_eq_some_iff.mp H
   obtain ⟨t475, A30, H⟩ := H
   replace H : (if t475 = true then ((codewrightref01_Trim.f k1 x0_1).bind fun t476 => (some t476)) else ((codewrightref01_DivMod.f k1 x0_1 x1_1).bind fun bt479 => (codewrightref01_Gcd.l0 k1 x1_1 bt479.2))) = some r := H
   have A3 := zA A30
   clear A30
   by_cases c4 : t475 = true
   ·
    subst c4
    have H1 : ((codewrightref01_Trim.f k1 x0_1).bind fun t476 => (some t476)) = some r := by rw [if_pos rfl] at H; exact H
    clear H
    have H := H1
    clear H1
    replace H := Option.bind_eq_some_iff.mp H
    obtain ⟨t476, A50, H⟩ := H
    replace H : (some t476) = some r := H
    have A5 := zA A50
    clear A50
    obtain rfl := Option.some.inj H
    obtain ⟨Ao6, co6, eo6⟩ := Kd.V_slice HO_1.out
    subst eo6
    go_wp2_with (first | ((with_reducible refine gate_callee (f := 46) rfl ?_); refine goesL_ (some 8) rfl rfl Try.func46 (by kernel_rfl) rfl #[.slice Ao6 x1_1.length co6] rfl (by (try simp only [List.map_toArray, List.map_cons, List.map_nil]); first | done | rfl | (simp only [List.length_drop, List.length_take]; rfl)) ?_; (with_reducible refine (codewrightref01_Zero.calls k1 _ _ x1_1 true _ ?side1 ?side2 A3.out).mono ?_); (case side1 => exact zC ((Kd.V_reads' HO_1.out).2.2)); (case side2 => exact (Kd.V_reads' HO_1.out).2.1); rintro e w7 ⟨rfl, hb⟩; refine ⟨_, rfl, ?_⟩; replace HO_0 := zA (Kd.V_below (by exact zV HO_0) hb); replace HO_1 := zA (Kd.V_below (by exact zV HO_1) hb); replace HB := zA (below_step (by exact zB HB) hb); (try clear hb); obtain ⟨Ao8, co8, eo8⟩ := Kd.V_slice HO_0.out; subst eo8) | ((with_reducible refine gate_callee (f := 65) rfl ?_); refine goesL_ (some 19) rfl rfl Try.func65 (by kernel_rfl) rfl #[.slice Ao8 x0_1.length co8] rfl (by (try simp only [List.map_toArray, List.map_cons, List.map_nil]); first | done | rfl | (simp only [List.length_drop, List.length_take]; rfl)) ?_; (with_reducible refine (codewrightref01_Trim.calls k1 _ _ x0_1 t476 _ ?side1 ?side2 A5.out).mono ?_); (case side1 => exact zC ((Kd.V_reads' HO_0.out).2.2)); (case side2 => exact (Kd.V_reads' HO_0.out).2.1); rintro e w9 ⟨v477, rfl, ho0, hb⟩; refine ⟨_, rfl, ?_⟩; replace HO_0 := zA (Kd.V_elder' (by exact zV HO_0) (Kd.R_base ho0) hb); replace HO_1 := zA (Kd.V_elder' (by exact zV HO_1) (Kd.R_base ho0) hb); have HO478 := zA (Kd.R_lower (Kd.R_newM (M := fun k_ => (w.heap.size ≤ k_)) ho0 (below_size (by exact zB HB)) (fun k_ h_ => h_)) (below_size (by exact zB HB))); replace HB := zA (below_step (by exact zB HB) hb); (try clear hb ho0)))
    go_ret
    exact ⟨_, by first | rfl | (simp [errW_none, errW_some] <;> rfl) | (simp [*, errW_none, errW_some] <;> rfl), by (with_reducible repeat (first | apply Kd.R_alloc | apply Kd.R_drewN | apply Kd.R_drew)); exact Kd.R_mono HO478.out (fun _ hk => hk.1), by exact zB HB⟩
   ·
    replace c4 := Bool.eq_false_iff.mpr c4
    subst c4
    have H1 : ((codewrightref01_DivMod.f k1 x0_1 x1_1).bind fun bt479 => (codewrightref01_Gcd.l0 k1 x1_1 bt479.2)) = some r := by rw [if_neg (show ¬ (false = true) by decide)] at H; exact H
    clear H
    have H := H1
    clear H1
    replace H := Option.bind_eq_some_iff.mp H
    obtain ⟨⟨t479, t480⟩, A100, H⟩ := H
    replace H : (codewrightref01_Gcd.l0 k1 x1_1 t480) = some r := H
    have A10 := zA A100
    clear A100
    have H' := zA H
    clear H
    obtain ⟨Ao11, co11, eo11⟩ := Kd.V_slice HO_1.out
    subst eo11
    go_wp2_with (first | ((with_reducible refine gate_callee (f := 46) rfl ?_); refine goesL_ (some 8) rfl rfl Try.func46 (by kernel_rfl) rfl #[.slice Ao11 x1_1.length co11] rfl (by (try simp only [List.map_toArray, List.map_cons, List.map_nil]); first | done | rfl | (simp only [List.length_drop, List.length_take]; rfl)) ?_; (with_reducible refine (codewrightref01_Zero.calls k1 _ _ x1_1 false _ ?side1 ?side2 A3.out).mono ?_); (case side1 => exact zC ((Kd.V_reads' HO_1.out).2.2)); (case side2 => exact (Kd.V_reads' HO_1.out).2.1); rintro e w12 ⟨rfl, hb⟩; refine ⟨_, rfl, ?_⟩; replace HO_0 := zA (Kd.V_below (by exact zV HO_0) hb); replace HO_1 := zA (Kd.V_below (by exact zV HO_1) hb); replace HB := zA (below_step (by exact zB HB) hb); (try clear hb); obtain ⟨Ao13, co13, eo13⟩ := Kd.V_slice HO_0.out; subst eo13) | ((with_reducible refine gate_callee (f := 86) rfl ?_); refine goesL_ (some 13) rfl rfl Try.func86 (by kernel_rfl) rfl #[.slice Ao13 x0_1.length co13, .slice Ao11 x1_1.length co11] rfl (by (try simp only [List.map_toArray, List.map_cons, List.map_nil]); first | done | rfl | (simp only [List.length_drop, List.length_take]; rfl)) ?_; (with_reducible refine (codewrightref01_DivMod.calls k1 _ _ x0_1 _ _ x1_1 t479 t480 _ ?side1 ?side2 ?side3 ?side4 A10.out).mono ?_); (case side1 => exact zC ((Kd.V_reads' HO_0.out).2.2)); (case side2 => exact (Kd.V_reads' HO_0.out).2.1); (case side3 => exact zC ((Kd.V_reads' HO_1.out).2.2)); (case side4 => exact (Kd.V_reads' HO_1.out).2.1); rintro e w14 ⟨v481, v483, rfl, ho0, ho1, hb⟩; refine ⟨_, rfl, ?_⟩; replace HO_0 := zA (Kd.V_mono (Kd.V_told (Kd.V_told (Kd.V_old (by exact zV HO_0) hb) (Kd.R_base ho0)) (Kd.R_base ho1)) (fun _ h_ => h_.1)); replace HO_1 := zA (Kd.V_mono (Kd.V_told (Kd.V_told (Kd.V_old (by exact zV HO_1) hb) (Kd.R_base ho0)) (Kd.R_base ho1)) (fun _ h_ => h_.1)); have HO482 := zA (Kd.R_lower (Kd.R_newM (M := fun k_ => (w.heap.size ≤ k_)) ho0 (below_size (by exact zB HB)) (fun k_ h_ => h_)) (below_size (by exact zB HB))); have HO484 := zA (Kd.R_lower (Kd.R_newM (M := fun k_ => (w.heap.size ≤ k_)) ho1 (below_size (by exact zB HB)) (fun k_ h_ => h_)) (below_size (by exact zB HB))); replace HB := zA (below_step (by exact zB HB) hb); (try clear hb ho0 ho1)))
    go_roundg k1
    case measure => have := HK1.out; omega
    case rel => exact ⟨(x1_1), (t480), H', ⟨by have := HK1.out; omega⟩, ⟨by (with_reducible repeat (first | apply Kd.V_alloc | apply Kd.V_drewN | apply Kd.V_drew)); exact Kd.V_mono HO_1.out (fun _ hk => hk.1.1)⟩, ⟨Kd.V_mono (Kd.R_V (by (with_reducible repeat (first | apply Kd.R_alloc | apply Kd.R_drewN | apply Kd.R_drew)); exact Kd.R_mono HO484.out (fun _ hk => hk.1))) (fun k_ hk => by first | exact ⟨(.inr (hk.1)), hk.2⟩ | exact (.inr (hk)))⟩, ⟨by exact zB HB⟩⟩
/-! ### codewrightref02_Make: function 60 -/
def codewrightref02_Make.j0 : Nat → Bool → List Int → List Int → Bool → Option (Bool × List Int × List Int)
 | 0, _, _, _, _ => none
 | k + 1, x0, x1, x2, x17 => if x17 = true then (some (false, (([] : List Int)), (([1] : List Int)))) else ((codewrightref01_Gcd.f k x1 x2).bind fun t494 => ((codewrightref01_DivMod.f k x1 t494).bind fun bt497 => ((codewrightref01_DivMod.f k x2 t494).bind fun bt503 => (some (x0, bt497.1, bt503.1)))))
def codewrightref02_Make.f (k : Nat) (a0 : Bool) (l1 : List Int) (l2 : List Int) : Option (Bool × List Int × List Int) := (codewrightref01_Zero.f k l1).bind fun t486 => (if t486 = true then (codewrightref02_Make.j0 k a0 l1 l2 true) else ((codewrightref01_Zero.f k l2).bind fun t487 => (codewrightref02_Make.j0 k a0 l1 l2 t487)))
set_option maxHeartbeats 8000000 in
set_option maxRecDepth 100000 in
theorem codewrightref02_Make.calls (k : Nat) (a0 : Bool) (A1 : Option Addr) (c1 : Nat) (l1 : List Int) (A2 : Option Addr) (c2 : Nat) (l2 : List Int) (r1 : Bool) (r2 : List Int) (r3 : List Int) (w : World) (hr1 : Kd.C (Kd.int .u32) w A1 l1.length l1) (hc1 : l1.length ≤ c1) (hr2 : Kd.C (Kd.int .u32) w A2 l2.length l2) (hc2 : l2.length ≤ c2) (h : codewrightref02_Make.f k a0 l1 l2 = some (r1, r2, r3)) :
  Calls Try.prog 60 #[.bool a0, .slice A1 l1.length c1, .slice A2 l2.length c2] w fun e w' => ∃ v1_ v2_ : Value, e = .returned (.agg #[.bool r1, v1_, v2_]) ∧ Kd.R (Kd.int .u32) 85 w' w.heap.size (fun k_ => some k_ ≠ (v2_ : Value).ownBlock) v1_ r2 ∧ Kd.R (Kd.int .u32) 85 w' w.heap.size (fun k_ => some k_ ≠ (v1_ : Value).ownBlock) v2_ r3 ∧ Below w.heap.size w w' := by
 have hu40 := Try.underlying40
 have HR1 := zA hr1
 have HC1 := zA hc1
 clear hr1 hc1
 have HR2 := zA hr2
 have HC2 := zA hc2
 clear hr2 hc2
 have HB := zA (Below.refl w.heap.size w)
 have H : ((codewrightref01_Zero.f k l1).bind fun t486 => (if t486 = true then (codewrightref02_Make.j0 k a0 l1 l2 true) else ((codewrightref01_Zero.f k l2).bind fun t487 => (codewrightref02_Make.j0 k a0 l1 l2 t487)))) = some (r1, r2, r3) := h
 clear h
 have HC4 := zA H
 clear H
 go_enter Try.func60, Try.ntmps60
 go_upto_region 1 with (first | ((with_reducible refine gate_dst (N := 6) rfl ?_); refine box_event ?hg (N := 6) ?hd (cs := #[.bool false, .slice none 0 0, .slice none 0 0]) (t := 40) ?hr ?_; (case hd => rfl); (case hg => rfl); (case hr => first | (go_simp; done) | (go_simp; rfl)); intro gb485 hg w5 hbox hb; have BK485 := zA (hbox); have GW485 := zA ((by rw [hg]; exact (below_size (by exact zB HB)) : w.heap.size ≤ gb485)); have GE485 := zA ((by rw [hg]; exact (below_size (by exact zB HB)) : w.heap.size ≤ gb485)); replace HB := zA (below_step (by exact zB HB) hb); clear hb hbox hg))
 (try simp only [Act.put, List.setIfInBounds_toArray, List.set_cons_zero, List.set_cons_succ])
 go_cut [17] (fun v17 wc => ∃ (kq : Nat) (x17_3 : Bool), v17 = .bool x17_3 ∧ Aside0 (codewrightref02_Make.j0 kq a0 l1 l2 x17_3 = some (r1, r2, r3)) ∧ Aside0 (kq ≤ k) ∧ Aside0 (wc.heap[gb485]? = some (.cells #[.bool false, (.slice none 0 0), (.slice none 0 0)] 40 (0, 0))) ∧ Aside0 (Below w.heap.size w wc))
 case first =>
  have H := HC4.out
  clear HC4
  replace H := Option.bind_eq_some_iff.mp H
  obtain ⟨t486, A60, H⟩ := H
  replace H : (if t486 = true then (codewrightref02_Make.j0 k a0 l1 l2 true) else ((codewrightref01_Zero.f k l2).bind fun t487 => (codewrightref02_Make.j0 k a0 l1 l2 t487))) = some (r1, r2, r3) := H
  have A6 := zA A60
  clear A60
  by_cases c7 : t486 = true
  ·
   subst c7
   have H1 : (codewrightref02_Make.j0 k a0 l1 l2 true) = some (r1, r2, r3) := by rw [if_pos rfl] at H; exact H
   clear H
   have H := H1
   clear H1
   have H' := zA H
   clear H
   go_wp2_with (first | ((with_reducible refine gate_callee (f := 46) rfl ?_); refine goesL_ (some 13) rfl rfl Try.func46 (by kernel_rfl) rfl #[.slice A1 l1.length c1] rfl (by (try simp only [List.map_toArray, List.map_cons, List.map_nil]); first | done | rfl | (simp only [List.length_drop, List.length_take]; rfl)) ?_; (with_reducible refine (codewrightref01_Zero.calls k _ _ l1 true _ ?side1 ?side2 A6.out).mono ?_); (case side1 => exact zC ((Kd.C_below HR1.out HB.out))); (case side2 => exact HC1.out); rintro e w8 ⟨rfl, hb⟩; refine ⟨_, rfl, ?_⟩; replace BK485 := zA (blk_below (g := gb485) (o := .cells #[.bool false, .slice none 0 0, .slice none 0 0] 40 (0, 0)) (by exact zK BK485) hb); replace HB := zA (below_step (by repeat (first | (with_reducible first | exact HB.out | apply below_alloc | apply pw_below_drewN | apply below_drew1 | refine below_set ?_ GE485.out) | exact HB.out)) hb); (try clear hb)))
   go_meet
   case rel => exact ⟨_, (true), (by first | rfl | (simp; done) | (simp [*]; done)), H', ⟨by first | omega | exact Nat.le_refl _⟩, ⟨by exact zK BK485⟩, ⟨by repeat (first | (with_reducible first | exact HB.out | apply below_alloc | apply pw_below_drewN | apply below_drew1 | refine below_set ?_ GE485.out) | exact HB.out)⟩⟩
  ·
   replace c7 := Bool.eq_false_iff.mpr c7
   subst c7
   have H1 : ((codewrightref01_Zero.f k l2).bind fun t487 => (codewrightref02_Make.j0 k a0 l1 l2 t487)) = some (r1, r2, r3) := by rw [if_neg (show ¬ (false = true) by decide)] at H; exact H
   clear H
   have H := H1
   clear H1
   replace H := Option.bind_eq_some_iff.mp H
   obtain ⟨t487, A90, H⟩ := H
   replace H : (codewrightref02_Make.j0 k a0 l1 l2 t487) = some (r1, r2, r3) := H
   have A9 := zA A90
   clear A90
   have H' := zA H
   clear H
   go_wp2_with (first | ((with_reducible refine gate_callee (f := 46) rfl ?_); refine goesL_ (some 13) rfl rfl Try.func46 (by kernel_rfl) rfl #[.slice A1 l1.length c1] rfl (by (try simp only [List.map_toArray, List.map_cons, List.map_nil]); first | done | rfl | (simp only [List.length_drop, List.length_take]; rfl)) ?_; (with_reducible refine (codewrightref01_Zero.calls k _ _ l1 false _ ?side1 ?side2 A6.out).mono ?_); (case side1 => exact zC ((Kd.C_below HR1.out HB.out))); (case side2 => exact HC1.out); rintro e w10 ⟨rfl, hb⟩; refine ⟨_, rfl, ?_⟩; replace BK485 := zA (blk_below (g := gb485) (o := .cells #[.bool false, .slice none 0 0, .slice none 0 0] 40 (0, 0)) (by exact zK BK485) hb); replace HB := zA (below_step (by repeat (first | (with_reducible first | exact HB.out | apply below_alloc | apply pw_below_drewN | apply below_drew1 | refine below_set ?_ GE485.out) | exact HB.out)) hb); (try clear hb)) | (go_at_call 46; (with_reducible refine (codewrightref01_Zero.calls k _ _ l2 t487 _ ?side1 ?side2 A9.out).mono ?_); (case side1 => exact zC ((Kd.C_below HR2.out HB.out))); (case side2 => exact HC2.out); rintro e w11 ⟨rfl, hb⟩; replace BK485 := zA (blk_below (g := gb485) (o := .cells #[.bool false, .slice none 0 0, .slice none 0 0] 40 (0, 0)) (by exact zK BK485) hb); replace HB := zA (below_step (by repeat (first | (with_reducible first | exact HB.out | apply below_alloc | apply pw_below_drewN | apply below_drew1 | refine below_set ?_ GE485.out) | exact HB.out)) hb); (try clear hb)))
   go_meet
   case rel => exact ⟨_, (t487), (by first | rfl | (simp; done) | (simp [*]; done)), H', ⟨by first | omega | exact Nat.le_refl _⟩, ⟨by exact zK BK485⟩, ⟨by repeat (first | (with_reducible first | exact HB.out | apply below_alloc | apply pw_below_drewN | apply below_drew1 | refine below_set ?_ GE485.out) | exact HB.out)⟩⟩
 case rest =>
  clear HC4
  try clear c1
  try clear c2
  try clear p2
  try clear c4
  try clear c6
  try clear c7
  obtain ⟨kq, x17_3, rfl, HA, HJ3, BK485, HB⟩ := hcut
  cases kq with
  | zero => exact absurd HA.out (by simp [codewrightref02_Make.j0])
  | succ kj3 =>
   have H := HA.out
   clear HA
   simp only [codewrightref02_Make.j0] at H
   by_cases c12 : x17_3 = true
   ·
    subst c12
    have H1 : (some (false, (([] : List Int)), (([1] : List Int)))) = some (r1, r2, r3) := by rw [if_pos rfl] at H; exact H
    clear H
    have H := H1
    clear H1
    obtain ⟨y488, hy488⟩ : ∃ y_ : List Int, y_ = (([] : List Int)) := ⟨_, rfl⟩
    replace H : (some (false, y488, (([1] : List Int)))) = some (r1, r2, r3) := by first | (rw [hy488]; with_reducible exact H) | (have H := (Option.bind_some _ _).symm.trans H; first | (rw [hy488]; with_reducible exact H) | with_reducible exact H) | (rw [hy488]; exact H) | exact H
    have Ny488 := zA hy488
    clear hy488
    obtain ⟨y491, hy491⟩ : ∃ y_ : List Int, y_ = (([1] : List Int)) := ⟨_, rfl⟩
    replace H : (some (false, y488, y491)) = some (r1, r2, r3) := by first | (rw [hy491]; with_reducible exact H) | (have H := (Option.bind_some _ _).symm.trans H; first | (rw [hy491]; with_reducible exact H) | with_reducible exact H) | (rw [hy491]; exact H) | exact H
    have Ny491 := zA hy491
    clear hy491
    simp only [Option.some.injEq, Prod.mk.injEq] at H
    obtain ⟨rfl, rfl, rfl⟩ := H
    go_wp2_with (first | ((with_reducible refine gate_dst (N := 18) rfl ?_); refine Kd.R_lit (Kd.int .u32) _ 85 ?hg (N := 18) ?hd (xs := ([] : List Int)) (inner := []) (ok := fun _ => True) (okp := fun _ => True) ?hr ?hp (fun _ hk => hk) trivial (Below.refl _ _) (Nat.le_refl _) (by simp) ?_; (case hd => rfl); (case hg => rfl); (case hr => first | (go_simp; done) | (go_simp; rfl)); (case hp => exact (Reps.none _ _)); intro v489 w13 ho14 hb hg_ hnew_; clear hg_ hnew_; (first | rw [← Ny488.out] at ho14 | (simp only [Int.reduceToNat] at ho14; rw [← Ny488.out] at ho14)); have HO490 := zA (Kd.R_lower ho14 (below_size (by repeat (first | (with_reducible first | exact HB.out | apply below_alloc | apply pw_below_drewN | apply below_drew1 | refine below_set ?_ GE485.out) | exact HB.out)))); replace BK485 := zA (blk_below (g := gb485) (o := .cells #[.bool false, .slice none 0 0, .slice none 0 0] 40 (0, 0)) (by exact zK BK485) hb); replace HB := zA (below_step (by repeat (first | (with_reducible first | exact HB.out | apply below_alloc | apply pw_below_drewN | apply below_drew1 | refine below_set ?_ GE485.out) | exact HB.out)) hb); clear hb ho14) | ((with_reducible refine gate_dst (N := 19) rfl ?_); refine Kd.R_lit (Kd.int .u32) _ 85 ?hg (N := 19) ?hd (xs := ([1] : List Int)) (inner := [.int .u32 1]) (ok := fun _ => True) (okp := fun _ => True) ?hr ?hp (fun _ hk => hk) trivial (Below.refl _ _) (Nat.le_refl _) (by simp) ?_; (case hd => rfl); (case hg => rfl); (case hr => first | (go_simp; done) | (go_simp; rfl)); (case hp => exact (Reps.one (show Kd.M (Kd.int .u32) _ _ _ 1 [.int .u32 1] from rfl) (Reps.none _ _))); intro v492 w15 ho16 hb hg_ hnew_; clear hg_ hnew_; (first | rw [← Ny491.out] at ho16 | (simp only [Int.reduceToNat] at ho16; rw [← Ny491.out] at ho16)); have HO493 := zA (Kd.R_lower (Kd.R_new' ho16 (Kd.R_lt (by exact zR HO490))) (below_size (by repeat (first | (with_reducible first | exact HB.out | apply below_alloc | apply pw_below_drewN | apply below_drew1 | refine below_set ?_ GE485.out) | exact HB.out)))); replace HO490 := zA (Kd.R_elder' (by exact zR HO490) (Kd.R_base ho16) hb); replace BK485 := zA (blk_below (g := gb485) (o := .cells #[.bool false, .slice none 0 0, .slice none 0 0] 40 (0, 0)) (by exact zK BK485) hb); replace HB := zA (below_step (by repeat (first | (with_reducible first | exact HB.out | apply below_alloc | apply pw_below_drewN | apply below_drew1 | refine below_set ?_ GE485.out) | exact HB.out)) hb); clear hb ho16; obtain ⟨Ao17, co17, eo17⟩ := Kd.R_slice HO493.out; subst eo17; obtain ⟨Ao18, co18, eo18⟩ := Kd.R_slice HO490.out; subst eo18; have hcz19_0 : w15.cell? ⟨gb485, 0, none⟩ = some (.bool false) := (blk_cell BK485.out 0).trans rfl; have hcz19_1 : w15.cell? ⟨gb485, 1, none⟩ = some (.slice none 0 0) := (blk_cell BK485.out 1).trans rfl; have hcz19_2 : w15.cell? ⟨gb485, 2, none⟩ = some (.slice none 0 0) := (blk_cell BK485.out 2).trans rfl; have hfz19_0 := blk_frozen BK485.out 0; have hfz19_1 := blk_frozen BK485.out 1; have hfz19_2 := blk_frozen BK485.out 2))
    refine bodyPost_ret (results_cell_row rfl _ _ gb485 40 #[.bool false, .slice Ao18 y488.length co18, .slice Ao17 y491.length co17] (0, 0) _ rfl (by (with_reducible repeat (first | refine blk_drewN ?_ _ | refine blk_drew ?_ | refine blk_alloc ?_ _)); refine blk_put (cs := #[.bool false, .slice Ao18 y488.length co18, .slice none 0 0]) ?_ 2 _ rfl; (with_reducible repeat (first | refine blk_drewN ?_ _ | refine blk_drew ?_ | refine blk_alloc ?_ _)); refine blk_put (cs := #[.bool false, .slice none 0 0, .slice none 0 0]) ?_ 1 _ rfl; (with_reducible repeat (first | refine blk_drewN ?_ _ | refine blk_drew ?_ | refine blk_alloc ?_ _)); refine blk_put (cs := #[.bool false, .slice none 0 0, .slice none 0 0]) ?_ 0 _ rfl; exact zK BK485) Try.underlying40 rfl (by kernel_rfl)) rfl ?_
    exact ⟨_, _, by first | rfl | (simp [errW_none, errW_some] <;> rfl) | (simp [*, errW_none, errW_some] <;> rfl), by (with_reducible repeat (first | apply Kd.R_alloc | apply Kd.R_drewN | apply Kd.R_drew)); exact Kd.R_mono (Kd.R_far (p := ⟨gb485, 2, none⟩) (Kd.R_far (p := ⟨gb485, 1, none⟩) (Kd.R_far (p := ⟨gb485, 0, none⟩) (Kd.R_types HO490.out BK485.out (by decide)) (fun _ hk => hk.2) (.bool false)) (fun _ hk => hk.2) (.slice Ao18 y488.length co18)) (fun _ hk => hk.2) (.slice Ao17 y491.length co17)) (fun _ hk => hk.1.2), by (with_reducible repeat (first | apply Kd.R_alloc | apply Kd.R_drewN | apply Kd.R_drew)); exact Kd.R_mono (Kd.R_far (p := ⟨gb485, 2, none⟩) (Kd.R_far (p := ⟨gb485, 1, none⟩) (Kd.R_far (p := ⟨gb485, 0, none⟩) (Kd.R_types HO493.out BK485.out (by decide)) (fun _ hk => hk.2) (.bool false)) (fun _ hk => hk.2) (.slice Ao18 y488.length co18)) (fun _ hk => hk.2) (.slice Ao17 y491.length co17)) (fun _ hk => hk.1.2), by repeat (first | (with_reducible first | exact HB.out | apply below_alloc | apply pw_below_drewN | apply below_drew1 | refine below_set ?_ GE485.out) | exact HB.out)⟩
   ·
    replace c12 := Bool.eq_false_iff.mpr c12
    subst c12
    have H1 : ((codewrightref01_Gcd.f kj3 l1 l2).bind fun t494 => ((codewrightref01_DivMod.f kj3 l1 t494).bind fun bt497 => ((codewrightref01_DivMod.f kj3 l2 t494).bind fun bt503 => (some (a0, bt497.1, bt503.1))))) = some (r1, r2, r3) := by rw [if_neg (show ¬ (false = true) by decide)] at H; exact H
    clear H
    have H := H1
    clear H1
    replace H := Option.bind_eq_some_iff.mp H
    obtain ⟨t494, A200, H⟩ := H
    replace H : ((codewrightref01_DivMod.f kj3 l1 t494).bind fun bt497 => ((codewrightref01_DivMod.f kj3 l2 t494).bind fun bt503 => (some (a0, bt497.1, bt503.1)))) = some (r1, r2, r3) := H
    have A20 := zA A200
    clear A200
    replace H := Option.bind_eq_some_iff.mp H
    obtain ⟨⟨t497, t498⟩, A210, H⟩ := H
    replace H : ((codewrightref01_DivMod.f kj3 l2 t494).bind fun bt503 => (some (a0, t497, bt503.1))) = some (r1, r2, r3) := H
    have A21 := zA A210
    clear A210
    replace H := Option.bind_eq_some_iff.mp H
    obtain ⟨⟨t503, t504⟩, A220, H⟩ := H
    replace H : (some (a0, t497, t503)) = some (r1, r2, r3) := H
    have A22 := zA A220
    clear A220
    simp only [Option.some.injEq, Prod.mk.injEq] at H
    obtain ⟨rfl, rfl, rfl⟩ := H
    go_wp2_with (first | ((with_reducible refine gate_callee (f := 85) rfl ?_); refine goesL_ (some 23) rfl rfl Try.func85 (by kernel_rfl) rfl #[.slice A1 l1.length c1, .slice A2 l2.length c2] rfl (by (try simp only [List.map_toArray, List.map_cons, List.map_nil]); first | done | rfl | (simp only [List.length_drop, List.length_take]; rfl)) ?_; (with_reducible refine (codewrightref01_Gcd.calls kj3 (fun k_ => k_ < w.heap.size) _ _ l1 (fun k_ => k_ < w.heap.size) _ _ l2 t494 _ ?side1 ?side2 A20.out).mono ?_); (case side1 => exact Kd.V_mk HC1.out (Kd.F_below (Kd.C_F (Kd.heap_int .u32) HR1.out) (by repeat (first | (with_reducible first | exact HB.out | apply below_alloc | apply pw_below_drewN | apply below_drew1 | refine below_set ?_ GE485.out) | exact HB.out)))); (case side2 => exact Kd.V_mk HC2.out (Kd.F_below (Kd.C_F (Kd.heap_int .u32) HR2.out) (by repeat (first | (with_reducible first | exact HB.out | apply below_alloc | apply pw_below_drewN | apply below_drew1 | refine below_set ?_ GE485.out) | exact HB.out)))); rintro e w23 ⟨v495, rfl, ho0, hb⟩; refine ⟨_, rfl, ?_⟩; have HO496 := zA (Kd.R_lower (Kd.R_mono (ok' := fun k_ => True) ho0 (fun _ hk_ => trivial)) (below_size (by repeat (first | (with_reducible first | exact HB.out | apply below_alloc | apply pw_below_drewN | apply below_drew1 | refine below_set ?_ GE485.out) | exact HB.out)))); replace BK485 := zA (blk_below (g := gb485) (o := .cells #[.bool false, .slice none 0 0, .slice none 0 0] 40 (0, 0)) (by exact zK BK485) hb); replace HB := zA (below_step (by repeat (first | (with_reducible first | exact HB.out | apply below_alloc | apply pw_below_drewN | apply below_drew1 | refine below_set ?_ GE485.out) | exact HB.out)) hb); (try clear hb ho0); obtain ⟨Ao24, co24, eo24⟩ := Kd.R_slice HO496.out; subst eo24) | ((with_reducible refine gate_callee (f := 86) rfl ?_); refine goesL_ (some 27) rfl rfl Try.func86 (by kernel_rfl) rfl #[.slice A1 l1.length c1, .slice Ao24 t494.length co24] rfl (by (try simp only [List.map_toArray, List.map_cons, List.map_nil]); first | done | rfl | (simp only [List.length_drop, List.length_take]; rfl)) ?_; (with_reducible refine (codewrightref01_DivMod.calls kj3 _ _ l1 _ _ t494 t497 t498 _ ?side1 ?side2 ?side3 ?side4 A21.out).mono ?_); (case side1 => exact zC ((Kd.C_below HR1.out HB.out))); (case side2 => exact HC1.out); (case side3 => exact zC ((Kd.R_reads' HO496.out).2.2)); (case side4 => exact (Kd.R_reads' HO496.out).2.1); rintro e w25 ⟨v499, v501, rfl, ho0, ho1, hb⟩; refine ⟨_, rfl, ?_⟩; have HO500 := zA (Kd.R_lower (Kd.R_new' ho0 (Kd.R_lt (by exact zR HO496))) (below_size (by repeat (first | (with_reducible first | exact HB.out | apply below_alloc | apply pw_below_drewN | apply below_drew1 | refine below_set ?_ GE485.out) | exact HB.out)))); have HO502 := zA (Kd.R_lower (Kd.R_new' ho1 (Kd.R_lt (by exact zR HO496))) (below_size (by repeat (first | (with_reducible first | exact HB.out | apply below_alloc | apply pw_below_drewN | apply below_drew1 | refine below_set ?_ GE485.out) | exact HB.out)))); replace HO496 := zA (Kd.R_mono (Kd.R_told (Kd.R_told (Kd.R_old (by exact zR HO496) hb) (Kd.R_base ho0)) (Kd.R_base ho1)) (fun _ h_ => h_.1)); replace BK485 := zA (blk_below (g := gb485) (o := .cells #[.bool false, .slice none 0 0, .slice none 0 0] 40 (0, 0)) (by exact zK BK485) hb); replace HB := zA (below_step (by repeat (first | (with_reducible first | exact HB.out | apply below_alloc | apply pw_below_drewN | apply below_drew1 | refine below_set ?_ GE485.out) | exact HB.out)) hb); (try clear hb ho0 ho1)) | ((with_reducible refine gate_callee (f := 86) rfl ?_); refine goesL_ (some 33) rfl rfl Try.func86 (by kernel_rfl) rfl #[.slice A2 l2.length c2, .slice Ao24 t494.length co24] rfl (by (try simp only [List.map_toArray, List.map_cons, List.map_nil]); first | done | rfl | (simp only [List.length_drop, List.length_take]; rfl)) ?_; (with_reducible refine (codewrightref01_DivMod.calls kj3 _ _ l2 _ _ t494 t503 t504 _ ?side1 ?side2 ?side3 ?side4 A22.out).mono ?_); (case side1 => exact zC ((Kd.C_below HR2.out HB.out))); (case side2 => exact HC2.out); (case side3 => exact zC ((Kd.R_reads' HO496.out).2.2)); (case side4 => exact (Kd.R_reads' HO496.out).2.1); rintro e w26 ⟨v505, v507, rfl, ho0, ho1, hb⟩; refine ⟨_, rfl, ?_⟩; have HO506 := zA (Kd.R_lower (Kd.R_new' (Kd.R_new' (Kd.R_new' ho0 (Kd.R_lt (by exact zR HO496))) (Kd.R_lt (by exact zR HO500))) (Kd.R_lt (by exact zR HO502))) (below_size (by repeat (first | (with_reducible first | exact HB.out | apply below_alloc | apply pw_below_drewN | apply below_drew1 | refine below_set ?_ GE485.out) | exact HB.out)))); have HO508 := zA (Kd.R_lower (Kd.R_new' (Kd.R_new' (Kd.R_new' ho1 (Kd.R_lt (by exact zR HO496))) (Kd.R_lt (by exact zR HO500))) (Kd.R_lt (by exact zR HO502))) (below_size (by repeat (first | (with_reducible first | exact HB.out | apply below_alloc | apply pw_below_drewN | apply below_drew1 | refine below_set ?_ GE485.out) | exact HB.out)))); replace HO496 := zA (Kd.R_mono (Kd.R_told (Kd.R_told (Kd.R_old (by exact zR HO496) hb) (Kd.R_base ho0)) (Kd.R_base ho1)) (fun _ h_ => h_.1)); replace HO500 := zA (Kd.R_mono (Kd.R_told (Kd.R_told (Kd.R_old (by exact zR HO500) hb) (Kd.R_base ho0)) (Kd.R_base ho1)) (fun _ h_ => h_.1)); replace HO502 := zA (Kd.R_mono (Kd.R_told (Kd.R_told (Kd.R_old (by exact zR HO502) hb) (Kd.R_base ho0)) (Kd.R_base ho1)) (fun _ h_ => h_.1)); replace BK485 := zA (blk_below (g := gb485) (o := .cells #[.bool false, .slice none 0 0, .slice none 0 0] 40 (0, 0)) (by exact zK BK485) hb); replace HB := zA (below_step (by repeat (first | (with_reducible first | exact HB.out | apply below_alloc | apply pw_below_drewN | apply below_drew1 | refine below_set ?_ GE485.out) | exact HB.out)) hb); (try clear hb ho0 ho1); obtain ⟨Ao27, co27, eo27⟩ := Kd.R_slice HO506.out; subst eo27; obtain ⟨Ao28, co28, eo28⟩ := Kd.R_slice HO500.out; subst eo28; have hcz29_0 : w26.cell? ⟨gb485, 0, none⟩ = some (.bool false) := (blk_cell BK485.out 0).trans rfl; have hcz29_1 : w26.cell? ⟨gb485, 1, none⟩ = some (.slice none 0 0) := (blk_cell BK485.out 1).trans rfl; have hcz29_2 : w26.cell? ⟨gb485, 2, none⟩ = some (.slice none 0 0) := (blk_cell BK485.out 2).trans rfl; have hfz29_0 := blk_frozen BK485.out 0; have hfz29_1 := blk_frozen BK485.out 1; have hfz29_2 := blk_frozen BK485.out 2))
    refine bodyPost_ret (results_cell_row rfl _ _ gb485 40 #[.bool a0, .slice Ao28 t497.length co28, .slice Ao27 t503.length co27] (0, 0) _ rfl (by (with_reducible repeat (first | refine blk_drewN ?_ _ | refine blk_drew ?_ | refine blk_alloc ?_ _)); refine blk_put (cs := #[.bool a0, .slice Ao28 t497.length co28, .slice none 0 0]) ?_ 2 _ rfl; (with_reducible repeat (first | refine blk_drewN ?_ _ | refine blk_drew ?_ | refine blk_alloc ?_ _)); refine blk_put (cs := #[.bool a0, .slice none 0 0, .slice none 0 0]) ?_ 1 _ rfl; (with_reducible repeat (first | refine blk_drewN ?_ _ | refine blk_drew ?_ | refine blk_alloc ?_ _)); refine blk_put (cs := #[.bool false, .slice none 0 0, .slice none 0 0]) ?_ 0 _ rfl; exact zK BK485) Try.underlying40 rfl (by kernel_rfl)) rfl ?_
    exact ⟨_, _, by first | rfl | (simp [errW_none, errW_some] <;> rfl) | (simp [*, errW_none, errW_some] <;> rfl), by (with_reducible repeat (first | apply Kd.R_alloc | apply Kd.R_drewN | apply Kd.R_drew)); exact Kd.R_mono (Kd.R_far (p := ⟨gb485, 2, none⟩) (Kd.R_far (p := ⟨gb485, 1, none⟩) (Kd.R_far (p := ⟨gb485, 0, none⟩) (Kd.R_types HO500.out BK485.out (by decide)) (fun _ hk => hk.2) (.bool a0)) (fun _ hk => hk.2) (.slice Ao28 t497.length co28)) (fun _ hk => hk.2) (.slice Ao27 t503.length co27)) (fun _ hk => hk.1.1.2), by (with_reducible repeat (first | apply Kd.R_alloc | apply Kd.R_drewN | apply Kd.R_drew)); exact Kd.R_mono (Kd.R_far (p := ⟨gb485, 2, none⟩) (Kd.R_far (p := ⟨gb485, 1, none⟩) (Kd.R_far (p := ⟨gb485, 0, none⟩) (Kd.R_types HO506.out BK485.out (by decide)) (fun _ hk => hk.2) (.bool a0)) (fun _ hk => hk.2) (.slice Ao28 t497.length co28)) (fun _ hk => hk.2) (.slice Ao27 t503.length co27)) (fun _ hk => hk.1.1.2), by repeat (first | (with_reducible first | exact HB.out | apply below_alloc | apply pw_below_drewN | apply below_drew1 | refine below_set ?_ GE485.out) | exact HB.out)⟩
/-! ### codewrightref02_Trim: function 59 -/
/-! ### codewrightref01_Pow: function 30 -/
end Go.Proofs.Ytpjpbhjpobdenaa.PNat
