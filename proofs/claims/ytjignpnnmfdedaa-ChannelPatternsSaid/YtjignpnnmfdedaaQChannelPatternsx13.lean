/- A part of the print of this row, cut down to what the row uses. -/
import Derived.Test.YtjignpnnmfdedaaQChannelPatternsx0
import Derived.Test.YtjignpnnmfdedaaQChannelPatternsx9
import Derived.Test.YtjignpnnmfdedaaQChannelPatternsx11
import Derived.Test.YtjignpnnmfdedaaQChannelPatternsx12
import Derived.Test.YtjignpnnmfdedaaQChannelPatternsWSq
-- printed by a scratch copy of the print, turned (wip/tools/turn_print.py)
namespace Go.Proofs.Ytjignpnnmfdedaa.PChannelPatterns
open Go.RowKit Go.Proofs.YtjignpnnmfdedaaW.PrintWords Go.Proofs.YtjignpnnmfdedaaW.PrintLast Go.Proofs.YtjignpnnmfdedaaW.PrintMore
attribute [local go_sem] max2_int min2_int max_two min_two max_three min_three max_four min_four   -- for this text's walks alone
set_option linter.unusedVariables false
set_option linter.unusedSimpArgs false
/-! ### codewrightref55_Mul: function 36 -/
mutual
def codewrightref55_Mul.l0 : Nat → List (S52) → List (S52) → List (S52) → Int → Option ((List (S52)))
 | 0, _, _, _, _ => none
 | k + 1, x0, x1, x5, x6 => if x6 < (x5.length : Int) then ((codewrightref02_Int.f k 0).bind fun bt664 => (if 0 ≤ x6 then (codewrightref55_Mul.l0 k x0 x1 (x5.set (x6 : Int).toNat (⟨bt664.1, bt664.2.1, bt664.2.2⟩ : S52)) (wrap64 (x6 + 1))) else (none))) else (codewrightref55_Mul.l1 k x0 x1 x5 0)
def codewrightref55_Mul.l1 : Nat → List (S52) → List (S52) → List (S52) → Int → Option ((List (S52)))
 | 0, _, _, _, _ => none
 | k + 1, x0, x1, x5, x7 => if x7 < (x0.length : Int) then (codewrightref55_Mul.l2 k x0 x1 x5 x7 0) else ((codewrightref55_Canon.f k x5).bind fun t672 => (some t672))
def codewrightref55_Mul.l2 : Nat → List (S52) → List (S52) → List (S52) → Int → Int → Option ((List (S52)))
 | 0, _, _, _, _, _ => none
 | k + 1, x0, x1, x5, x7, x8 => if x8 < (x1.length : Int) then (if 0 ≤ (wrap64 (x7 + x8)) then (if (wrap64 (x7 + x8)) < (x5.length : Int) then (if 0 ≤ x7 then (if x7 < (x0.length : Int) then (if 0 ≤ x8 then ((codewrightref02_Mul.f k ((rd_T52 x0 x7).f0) ((rd_T52 x0 x7).f1) ((rd_T52 x0 x7).f2) ((rd_T52 x1 x8).f0) ((rd_T52 x1 x8).f1) ((rd_T52 x1 x8).f2)).bind fun bt678 => ((codewrightref02_Add.f k ((rd_T52 x5 (wrap64 (x7 + x8))).f0) ((rd_T52 x5 (wrap64 (x7 + x8))).f1) ((rd_T52 x5 (wrap64 (x7 + x8))).f2) bt678.1 bt678.2.1 bt678.2.2).bind fun bt685 => (codewrightref55_Mul.l2 k x0 x1 (x5.set ((wrap64 (x7 + x8)) : Int).toNat (⟨bt685.1, bt685.2.1, bt685.2.2⟩ : S52)) x7 (wrap64 (x8 + 1))))) else (none)) else (none)) else (none)) else (none)) else (none)) else (codewrightref55_Mul.l1 k x0 x1 x5 (wrap64 (x7 + 1)))
end
def codewrightref55_Mul.f (k : Nat) (l0 : List (S52)) (l1 : List (S52)) : Option ((List (S52))) := if 0 ≤ (wrap64 ((l0.length : Int) + (l1.length : Int))) then (if (wrap64 ((l0.length : Int) + (l1.length : Int)) : Int).toNat ≤ 5026338869833 then (codewrightref55_Mul.l0 k l0 l1 (List.replicate (wrap64 ((l0.length : Int) + (l1.length : Int)) : Int).toNat z52) 0) else (none)) else (none)
def codewrightref55_Mul.T12 : Bool × List (List Nat × List Nat) := (true, [([], []), ([], []), ([], []), ([1, 2], [1, 2]), ([], []), ([], []), ([], []), ([5, 6], [5, 6]), ([4, 7], [4, 7]), ([8], [8]), ([], []), ([], []), ([10, 11], [10, 11]), ([12], [12]), ([], []), ([], []), ([14, 15], [14, 15]), ([16], [16]), ([13, 17], [13, 17]), ([9, 18, 18], [9, 18]), ([0, 3, 0, 1, 2, 3, 4, 5, 6, 7, 8, 9, 10, 11, 12, 13, 14, 15, 16, 17, 18, 19], [0, 3]), ([20, 19, 19, 0, 1, 2, 3, 4, 5, 6, 7, 8, 9, 10, 11, 12, 13, 14, 15, 16, 17, 18, 19], [19, 20])])
def codewrightref55_Mul.B12 : List Nat := [0, 0, 0, 6, 0, 0, 0, 96, 240, 496, 0, 0, 3072, 7168, 0, 0, 49152, 114688, 261120, 524272, 1048575, 2097151]
theorem codewrightref55_Mul.tab12 : rtab .any (opsOf Try.f36 12) = codewrightref55_Mul.T12 := by kernel_rfl
theorem codewrightref55_Mul.bits12 : waitsOk codewrightref55_Mul.T12.2 codewrightref55_Mul.B12 = true := by kernel_rfl
set_option maxHeartbeats 8000000 in
set_option maxRecDepth 100000 in
theorem codewrightref55_Mul.calls (k : Nat) (A0 : Option Addr) (c0 : Nat) (l0 : List (S52)) (A1 : Option Addr) (c1 : Nat) (l1 : List (S52)) (r : List (S52)) (w : World) (hr0 : Kd.C k52 w A0 l0.length l0) (hc0 : l0.length ≤ c0) (hr1 : Kd.C k52 w A1 l1.length l1) (hc1 : l1.length ≤ c1) (h : codewrightref55_Mul.f k l0 l1 = some r) :
  Calls Try.prog 36 #[.slice A0 l0.length c0, .slice A1 l1.length c1] w fun e w' => ∃ v0_ : Value, e = .returned (v0_) ∧ Kd.N k52 52 w' w.heap.size (fun k_ => (w.heap.size ≤ k_)) v0_ r ∧ Below w.heap.size w w' := by
 have hu52 := Try.underlying52
 have HR0 := zA hr0
 have HC0 := zA hc0
 clear hr0 hc0
 have HR1 := zA hr1
 have HC1 := zA hc1
 clear hr1 hc1
 have HB := zA (Below.refl w.heap.size w)
 have H : (if 0 ≤ (wrap64 ((l0.length : Int) + (l1.length : Int))) then (if (wrap64 ((l0.length : Int) + (l1.length : Int)) : Int).toNat ≤ 5026338869833 then (codewrightref55_Mul.l0 k l0 l1 (List.replicate (wrap64 ((l0.length : Int) + (l1.length : Int)) : Int).toNat z52) 0) else (none)) else (none)) = some r := h
 clear h
 obtain ⟨ji3, hji3⟩ : ∃ j_ : Int, (wrap64 ((l0.length : Int) + (l1.length : Int))) = j_ := ⟨_, rfl⟩
 replace H : (if 0 ≤ (ji3) then (if (ji3 : Int).toNat ≤ 5026338869833 then (codewrightref55_Mul.l0 k l0 l1 (List.replicate (ji3 : Int).toNat z52) 0) else (none)) else (none)) = some r := by first | (rw [hji3] at H; exact H) | (simp only [hji3] at H ⊢; exact H)
 have hji3w : (IntKind.i64.wrap ((l0.length : Int) + (l1.length : Int))) = ji3 := (i64_w _).trans hji3
 by_cases c4 : 0 ≤ (ji3)
 ·
  rw [if_pos c4] at H
  have c4b0 := eq_true c4
  have c4b1 : decide (0 ≤ (ji3)) = true := decide_eq_true c4
  clear c4
  by_cases c5 : (ji3 : Int).toNat ≤ 5026338869833
  ·
   rw [if_pos c5] at H
   have c5b0 := eq_true c5
   have c5b1 : decide ((ji3 : Int).toNat ≤ 5026338869833) = true := decide_eq_true c5
   clear c5
   obtain ⟨y661, hy661⟩ : ∃ y_ : List (S52), y_ = (List.replicate (ji3 : Int).toNat z52) := ⟨_, rfl⟩
   replace H : (codewrightref55_Mul.l0 k l0 l1 y661 0) = some r := by first | (rw [hy661]; with_reducible exact H) | (have H := (Option.bind_some _ _).symm.trans H; first | (rw [hy661]; with_reducible exact H) | with_reducible exact H) | (rw [hy661]; exact H) | exact H
   have Ny661 := zA hy661
   clear hy661
   have H' := zA H
   clear H
   go_enter Try.func36, Try.ntmps36
   go_wp2_with (first | ((with_reducible refine gate_dst (N := 14) rfl ?_); refine Kd.N_make k52 _ 52 rfl (N' := 14) rfl 40 _ _ rfl ji3 rfl rfl Try.underlying40 (.agg #[(.bool false), (.slice none 0 0), (.slice none 0 0)]) 56 info52 rfl (by decide) (by omega) z52 (ok := fun k_ => w.heap.size ≤ k_) (okp := fun _ => False) (k52_mkF _ _ z52 (Nat.le_refl _) (Kd.F_nil _ _ _) (Nat.le_refl _) (Kd.F_nil _ _ _)) (fun _ hk => hk.elim) (Nat.le_refl _) (of_decide_eq_true (by assumption)) (Nat.le_trans (Nat.mul_le_mul_right _ (of_decide_eq_true (by assumption) : ji3.toNat ≤ 5026338869833)) (by omega)) (Below.refl _ _) (Nat.le_refl _) ?_; intro v662 w6 ho7 hb hg_ hnew_; clear hg_ hnew_; (first | rw [← Ny661.out] at ho7 | (simp only [Int.reduceToNat] at ho7; rw [← Ny661.out] at ho7)); have HO663 := zA (Kd.N_lower (Kd.N_mono (ok' := fun k_ => (w.heap.size ≤ k_)) ho7 (fun k_ hk_ => (Nat.le_trans (below_size (by exact zB HB)) hk_))) (below_size (by exact zB HB))); replace HB := zA (below_step (by exact zB HB) hb); clear hb ho7))
   go_loopg [6] k (fun kq v6 w' => ∃ (x5_1 : List (S52)) (x6_1 : Int), v6 = .int .i64 x6_1 ∧ Aside0 (codewrightref55_Mul.l0 kq l0 l1 x5_1 x6_1 = some r) ∧ Aside0 (kq ≤ k) ∧ Aside0 (Kd.N k52 52 w' w.heap.size (fun k_ => (w.heap.size ≤ k_)) v662 x5_1) ∧ Aside0 (Below w.heap.size w w'))
   case atStart => exact ⟨(y661), (0), (by first | rfl | (simp; done) | (simp [*]; done)), H', ⟨Nat.le_refl _⟩, ⟨by exact zN HO663⟩, ⟨by exact zB HB⟩⟩
   case round =>
    clear H'
    try clear c1
    try clear p2
    try clear c3
    try clear c4
    try clear c4b0
    try clear c4b1
    try clear c5
    try clear c5b0
    try clear c5b1
    try clear p6
    obtain ⟨x5_1, x6_1, rfl, HA, HK1, HO_5, HB⟩ := hrel
    cases gk with
    | zero => exact absurd HA.out (by simp [codewrightref55_Mul.l0])
    | succ k1 =>
     have H := HA.out
     clear HA
     simp only [codewrightref55_Mul.l0] at H
     by_cases c8 : x6_1 < (x5_1.length : Int)
     ·
      rw [if_pos c8] at H
      have c8b0 : decide (x6_1 < (x5_1.length : Int)) = true := decide_eq_true c8
      clear c8
      replace H := Option.bind_eq_some_iff.mp H
      obtain ⟨⟨t664, t665, t668⟩, A90, H⟩ := H
      replace H : (if 0 ≤ x6_1 then (codewrightref55_Mul.l0 k1 l0 l1 (x5_1.set (x6_1 : Int).toNat (⟨t664, t665, t668⟩ : S52)) (wrap64 (x6_1 + 1))) else (none)) = some r := H
      have A9 := zA A90
      clear A90
      by_cases c10 : 0 ≤ x6_1
      ·
       rw [if_pos c10] at H
       have c10b0 : decide (0 ≤ x6_1) = true := decide_eq_true c10
       clear c10
       obtain ⟨y671, hy671⟩ : ∃ y_ : List (S52), y_ = (x5_1.set (x6_1 : Int).toNat (⟨t664, t665, t668⟩ : S52)) := ⟨_, rfl⟩
       replace H : (codewrightref55_Mul.l0 k1 l0 l1 y671 (wrap64 (x6_1 + 1))) = some r := by first | (rw [hy671]; with_reducible exact H) | (have H := (Option.bind_some _ _).symm.trans H; first | (rw [hy671]; with_reducible exact H) | with_reducible exact H) | (rw [hy671]; exact H) | exact H
       have Ny671 := zA hy671
       clear hy671
       have H' := zA H
       clear H
       obtain ⟨Ao12, co12, eo12⟩ := Kd.N_slice HO_5.out
       subst eo12
       go_wp2_with (first | ((with_reducible refine gate_callee (f := 42) rfl ?_); refine goesL_ (some 23) rfl rfl Try.func42 (by kernel_rfl) rfl #[.int .i64 0] rfl (by (try simp only [List.map_toArray, List.map_cons, List.map_nil]); first | done | rfl | (simp only [List.length_drop, List.length_take]; rfl)) ?_; (with_reducible refine (codewrightref02_Int.calls k1 0 t664 t665 t668 _ A9.out).mono ?_); rintro e w13 ⟨v666, v669, rfl, ho0, ho1, hb⟩; refine ⟨_, rfl, ?_⟩; replace HO_5 := zA (Kd.N_mono (Kd.N_told (Kd.N_told (Kd.N_old (by exact zN HO_5) hb) (Kd.R_base ho0)) (Kd.R_base ho1)) (fun _ h_ => h_.1)); have HO667 := zA (Kd.R_lower (Kd.R_newM (M := fun k_ => (w.heap.size ≤ k_)) ho0 (below_size (by exact zB HB)) (fun k_ h_ => h_)) (below_size (by exact zB HB))); have HO670 := zA (Kd.R_lower (Kd.R_newM (M := fun k_ => (w.heap.size ≤ k_)) ho1 (below_size (by exact zB HB)) (fun k_ h_ => h_)) (below_size (by exact zB HB))); replace HB := zA (below_step (by exact zB HB) hb); (try clear hb ho0 ho1); have p11 : 0 ≤ (x6_1 : Int) := of_decide_eq_true (by assumption); have q11 : (x6_1 : Int) < ((x5_1.length : Int) : Int) := of_decide_eq_true (by assumption); obtain ⟨go11, co11, eo11, gb11, gl11, cl11, HG11⟩ := Kd.N_form HO_5.out (by omega); (first | cases eo11 | (injection eo11 with ea_ en_ ec_; (first | subst ea_ | (injection ea_ with ea_; subst ea_)); subst ec_; clear en_)); have GB11 := zA gb11; have GG11 := zA HG11; clear gb11 gl11 HG11; obtain ⟨ce11, hcl11, hM11, hcc11, hfr11⟩ := Kd.N_elem HO_5.out z52 (x6_1 : Int) p11 q11; obtain ⟨ua11_1, uc11_1, ua11_2, uc11_2, rfl, ul11_1, ge11_1, ul11_2, ge11_2⟩ := k52_openF hM11; have hx11_0 : w13.cell? ⟨go11, (x6_1 : Int).toNat * 3, none⟩ = some (.bool ((rd_T52 x5_1 x6_1).f0)) := hcc11 0 _ rfl; have hx11_1 : w13.cell? ⟨go11, (x6_1 : Int).toNat * 3 + 1, none⟩ = some (.slice ua11_1 ((rd_T52 x5_1 x6_1).f1).length uc11_1) := hcc11 1 _ rfl; have hx11_2 : w13.cell? ⟨go11, (x6_1 : Int).toNat * 3 + 2, none⟩ = some (.slice ua11_2 ((rd_T52 x5_1 x6_1).f2).length uc11_2) := hcc11 2 _ rfl; have hf11_0 : w13.frozen? ⟨go11, (x6_1 : Int).toNat * 3, none⟩ = false := hfr11 0; have hf11_1 : w13.frozen? ⟨go11, (x6_1 : Int).toNat * 3 + 1, none⟩ = false := hfr11 1; have hf11_2 : w13.frozen? ⟨go11, (x6_1 : Int).toNat * 3 + 2, none⟩ = false := hfr11 2; clear hcl11 hcc11 hfr11 hM11; replace p11 := eq_true p11; replace q11 := eq_true q11; have n_ := zA (Kd.N_mono (ok' := (fun k_ => (w.heap.size ≤ k_) ∧ some k_ ≠ (v666 : Value).ownBlock ∧ some k_ ≠ (v669 : Value).ownBlock)) HO_5.out (fun k_ hk => ⟨hk.1.1, ⟨hk.1.2, hk.2⟩⟩)); clear HO_5; have HO_5 := n_; clear n_; obtain ⟨Ao16, co16, eo16⟩ := Kd.R_slice HO667.out; subst eo16; obtain ⟨Ao17, co17, eo17⟩ := Kd.R_slice HO670.out; subst eo17; have HX14 := zA (show Kd.N k52 52 w13 w.heap.size (fun k_ => (w.heap.size ≤ k_)) (.slice (some ⟨go11, 0, none⟩) x5_1.length co12) x5_1 from (by (with_reducible repeat (first | apply Kd.N_alloc | apply Kd.N_drewN | apply Kd.N_drew)); exact Kd.N_mono HO_5.out (fun _ hk => hk.1))); obtain ⟨ce14, hcl14, hM14, hcc14, hfr14⟩ := Kd.N_elem HX14.out z52 (x6_1 : Int) (of_decide_eq_true (by assumption)) (by have h_ : (x6_1 : Int) < ((x5_1.length : Int) : Int) := of_decide_eq_true (by assumption); first | exact h_ | (have e_ := (Kd.N_reads' HO_5.out).1; omega) | simpa using h_); obtain ⟨ua14_1, uc14_1, ua14_2, uc14_2, rfl, ul14_1, ge14_1, ul14_2, ge14_2⟩ := k52_openF hM14; have HP14 := Kd.N_seg HX14.out (x6_1 : Int) (of_decide_eq_true (by assumption)) (by have h_ : (x6_1 : Int) < ((x5_1.length : Int) : Int) := of_decide_eq_true (by assumption); first | exact h_ | (have e_ := (Kd.N_reads' HO_5.out).1; omega) | simpa using h_) (seg := [.bool t664, .slice Ao16 t665.length co16, .slice Ao17 t668.length co17]) (j := 0) hcl14 hcc14 (show 3 ≤ 3 from by decide) (x' := (⟨t664, t665, t668⟩ : S52)) (k52_mkF _ _ (⟨t664, t665, t668⟩ : S52) (Kd.R_reads' (Kd.R_mono (ok' := (fun k_ => ((fun k_ => (w.heap.size ≤ k_))) k_ ∧ k_ ≠ go11)) (Kd.R_apart' (HO667.out) (Kd.N_typed HO_5.out) (by decide)) (fun k_ hk => ⟨hk.1.1, fun e_ => (hk.2) (by rw [e_]; rfl)⟩))).2.1 (Kd.R_F (Kd.R_mono (ok' := (fun k_ => ((fun k_ => (w.heap.size ≤ k_))) k_ ∧ k_ ≠ go11)) (Kd.R_apart' (HO667.out) (Kd.N_typed HO_5.out) (by decide)) (fun k_ hk => ⟨hk.1.1, fun e_ => (hk.2) (by rw [e_]; rfl)⟩))) (Kd.R_reads' (Kd.R_mono (ok' := (fun k_ => ((fun k_ => (w.heap.size ≤ k_))) k_ ∧ k_ ≠ go11)) (Kd.R_apart' (HO670.out) (Kd.N_typed HO_5.out) (by decide)) (fun k_ hk => ⟨hk.1.1, fun e_ => (hk.2) (by rw [e_]; rfl)⟩))).2.1 (Kd.R_F (Kd.R_mono (ok' := (fun k_ => ((fun k_ => (w.heap.size ≤ k_))) k_ ∧ k_ ≠ go11)) (Kd.R_apart' (HO670.out) (Kd.N_typed HO_5.out) (by decide)) (fun k_ hk => ⟨hk.1.1, fun e_ => (hk.2) (by rw [e_]; rfl)⟩)))) (fun _ hk => hk); have hx14_0 := hcc14 0 _ rfl; (try simp only [show (k52).sz = 3 from rfl, Nat.mul_one, Nat.add_zero] at hx14_0); have hf14_0 := hfr14 0; (try simp only [show (k52).sz = 3 from rfl, Nat.mul_one, Nat.add_zero] at hf14_0); have hx14_1 := hcc14 1 _ rfl; (try simp only [show (k52).sz = 3 from rfl, Nat.mul_one, Nat.add_zero] at hx14_1); have hf14_1 := hfr14 1; (try simp only [show (k52).sz = 3 from rfl, Nat.mul_one, Nat.add_zero] at hf14_1); have hx14_2 := hcc14 2 _ rfl; (try simp only [show (k52).sz = 3 from rfl, Nat.mul_one, Nat.add_zero] at hx14_2); have hf14_2 := hfr14 2; (try simp only [show (k52).sz = 3 from rfl, Nat.mul_one, Nat.add_zero] at hf14_2); clear hcl14 hcc14 hfr14 hM14) | ((with_reducible refine gate_store (t := 52) (p := 24) rfl ?_); refine store_event (t := 52) (p := 24) (v := ?vo_w15) (w1 := (((w13.setCell ⟨go11, (x6_1 : Int).toNat * 3, none⟩ (.bool t664)).setCell ⟨go11, (x6_1 : Int).toNat * 3 + 1, none⟩ (.slice Ao16 t665.length co16)).setCell ⟨go11, (x6_1 : Int).toNat * 3 + 2, none⟩ (.slice Ao17 t668.length co17))) ?hg ?ho ?hn ?hr ?_; (case ho => rfl); (case hg => rfl); (case hn => rfl); (case hr => first | (go_simp; done) | (go_simp; rfl)); intro w15 hw; have hg : w13.grownBy w15 (some go11) := (by rw [hw]; exact HP14.2); have hp_ : Kd.N k52 52 w15 w.heap.size (fun k_ => (w.heap.size ≤ k_)) (.slice (some ⟨go11, 0, none⟩) x5_1.length co12) y671 := (by rw [hw, Ny671.out]; exact HP14.1); clear HP14; have n0_ := zA (hp_); have n1_ := zA ((by rw [hw]; exact below_set (below_set (below_set (HB.out) GB11.out) GB11.out) GB11.out : Below w.heap.size w w15)); clear HO_5; clear HB; clear HO667; clear HO670; have HO_5 := n0_; have HB := n1_; clear n0_ n1_; clear hg hw hp_))
       go_roundg k1
       case measure => have := HK1.out; omega
       case rel => exact ⟨(y671), (wrap64 (x6_1 + 1)), (by first | rfl | (simp; done) | (simp [*]; done)), H', ⟨by have := HK1.out; omega⟩, ⟨by exact zN HO_5⟩, ⟨by exact zB HB⟩⟩
      ·
       rw [if_neg c10] at H
       exact absurd H (by simp)
     ·
      rw [if_neg c8] at H
      have c8b0 : decide (x6_1 < (x5_1.length : Int)) = false := decide_eq_false c8
      clear c8
      have H' := zA H
      clear H
      obtain ⟨Ao18, co18, eo18⟩ := Kd.N_slice HO_5.out
      subst eo18
      go_wp2
      go_loopg [7] k1 (fun kq v7 w' => ∃ (x5_2 : List (S52)) (x7_2 : Int), v7 = .int .i64 x7_2 ∧ Aside0 (codewrightref55_Mul.l1 kq l0 l1 x5_2 x7_2 = some r) ∧ Aside0 (kq ≤ k1) ∧ Aside0 (Kd.N k52 52 w' w.heap.size (fun k_ => (w.heap.size ≤ k_)) (.slice Ao18 x5_1.length co18) x5_2) ∧ Aside0 (Below w.heap.size w w'))
      case atStart => exact ⟨(x5_1), (0), (by first | rfl | (simp; done) | (simp [*]; done)), H', ⟨Nat.le_refl _⟩, ⟨by exact zN HO_5⟩, ⟨by exact zB HB⟩⟩
      case round =>
       clear H'
       try clear c1
       try clear p1
       try clear q1
       try clear hx1
       try clear p2
       try clear c3
       try clear c4
       try clear c4b0
       try clear c4b1
       try clear c5
       try clear c5b0
       try clear c5b1
       try clear p6
       try clear c8
       try clear c8b0
       try clear c10
       try clear c10b0
       try clear c11
       try clear p11
       try clear q11
       try clear hx11
       try clear hf11
       try clear c14
       try clear hx14
       try clear hf14
       try clear hx11_0
       try clear hx11_1
       try clear hx11_2
       try clear hx14_0
       try clear hx14_1
       try clear hx14_2
       try clear p11
       try clear p2
       try clear p6
       try clear q11
       obtain ⟨x5_2, x7_2, rfl, HA, HK2, HO_5, HB⟩ := hrel
       have hl5_2 := (Kd.N_reads' HO_5.out).1
       rw [hl5_2] at HO_5
       (try simp only [hl5_2])
       cases gk with
       | zero => exact absurd HA.out (by simp [codewrightref55_Mul.l1])
       | succ k2 =>
        have H := HA.out
        clear HA
        simp only [codewrightref55_Mul.l1] at H
        by_cases c19 : x7_2 < (l0.length : Int)
        ·
         rw [if_pos c19] at H
         have c19b0 : decide (x7_2 < (l0.length : Int)) = true := decide_eq_true c19
         clear c19
         have H' := zA H
         clear H
         go_wp2
         go_loopg [8] k2 (fun kq v8 w' => ∃ (x5_3 : List (S52)) (x8_3 : Int), v8 = .int .i64 x8_3 ∧ Aside0 (codewrightref55_Mul.l2 kq l0 l1 x5_3 x7_2 x8_3 = some r) ∧ Aside0 (kq ≤ k2) ∧ Aside0 (Kd.N k52 52 w' w.heap.size (fun k_ => (w.heap.size ≤ k_)) (.slice Ao18 x5_2.length co18) x5_3) ∧ Aside0 (Below w.heap.size w w'))
         case atStart => exact ⟨(x5_2), (0), (by first | rfl | (simp; done) | (simp [*]; done)), H', ⟨Nat.le_refl _⟩, ⟨by (try simp only [hl5_2]); exact zN HO_5⟩, ⟨by exact zB HB⟩⟩
         case round =>
          clear H'
          try clear c1
          try clear p1
          try clear q1
          try clear hx1
          try clear p2
          try clear c3
          try clear c4
          try clear c4b0
          try clear c4b1
          try clear c5
          try clear c5b0
          try clear c5b1
          try clear p6
          try clear c8
          try clear c8b0
          try clear c10
          try clear c10b0
          try clear c11
          try clear p11
          try clear q11
          try clear hx11
          try clear hf11
          try clear c14
          try clear hx14
          try clear hf14
          try clear c19
          try clear c19b0
          try clear hx11_0
          try clear hx11_1
          try clear hx11_2
          try clear hx14_0
          try clear hx14_1
          try clear hx14_2
          try clear p1
          try clear p11
          try clear p2
          try clear p6
          try clear q1
          try clear q11
          obtain ⟨x5_3, x8_3, rfl, HA, HK3, HO_5, HB⟩ := hrel
          have hl5_3 := (Kd.N_reads' HO_5.out).1
          rw [hl5_3] at HO_5
          (try simp only [hl5_3])
          cases gk with
          | zero => exact absurd HA.out (by simp [codewrightref55_Mul.l2])
          | succ k3 =>
           have H := HA.out
           clear HA
           simp only [codewrightref55_Mul.l2] at H
           by_cases c20 : x8_3 < (l1.length : Int)
           ·
            rw [if_pos c20] at H
            have c20b0 : decide (x8_3 < (l1.length : Int)) = true := decide_eq_true c20
            clear c20
            obtain ⟨ji21, hji21⟩ : ∃ j_ : Int, (wrap64 (x7_2 + x8_3)) = j_ := ⟨_, rfl⟩
            replace H : (if 0 ≤ (ji21) then (if (ji21) < (x5_3.length : Int) then (if 0 ≤ x7_2 then (if x7_2 < (l0.length : Int) then (if 0 ≤ x8_3 then ((codewrightref02_Mul.f k3 ((rd_T52 l0 x7_2).f0) ((rd_T52 l0 x7_2).f1) ((rd_T52 l0 x7_2).f2) ((rd_T52 l1 x8_3).f0) ((rd_T52 l1 x8_3).f1) ((rd_T52 l1 x8_3).f2)).bind fun bt678 => ((codewrightref02_Add.f k3 ((rd_T52 x5_3 (ji21)).f0) ((rd_T52 x5_3 (ji21)).f1) ((rd_T52 x5_3 (ji21)).f2) bt678.1 bt678.2.1 bt678.2.2).bind fun bt685 => (codewrightref55_Mul.l2 k3 l0 l1 (x5_3.set ((ji21) : Int).toNat (⟨bt685.1, bt685.2.1, bt685.2.2⟩ : S52)) x7_2 (wrap64 (x8_3 + 1))))) else (none)) else (none)) else (none)) else (none)) else (none)) = some r := by first | (rw [hji21] at H; exact H) | (simp only [hji21] at H ⊢; exact H)
            have hji21w : (IntKind.i64.wrap (x7_2 + x8_3)) = ji21 := (i64_w _).trans hji21
            by_cases c22 : 0 ≤ (ji21)
            ·
             rw [if_pos c22] at H
             have c22b0 : decide (0 ≤ (ji21)) = true := decide_eq_true c22
             clear c22
             by_cases c23 : (ji21) < (x5_3.length : Int)
             ·
              rw [if_pos c23] at H
              have c23b0 : decide ((ji21) < (x5_3.length : Int)) = true := decide_eq_true c23
              clear c23
              by_cases c24 : 0 ≤ x7_2
              ·
               rw [if_pos c24] at H
               have c24b0 : decide (0 ≤ x7_2) = true := decide_eq_true c24
               clear c24
               by_cases c25 : x7_2 < (l0.length : Int)
               ·
                rw [if_pos c25] at H
                have c25b0 : decide (x7_2 < (l0.length : Int)) = true := decide_eq_true c25
                clear c25
                by_cases c26 : 0 ≤ x8_3
                ·
                 rw [if_pos c26] at H
                 have c26b0 : decide (0 ≤ x8_3) = true := decide_eq_true c26
                 clear c26
                 replace H := Option.bind_eq_some_iff.mp H
                 obtain ⟨⟨t678, t679, t682⟩, A270, H⟩ := H
                 replace H : ((codewrightref02_Add.f k3 ((rd_T52 x5_3 (ji21)).f0) ((rd_T52 x5_3 (ji21)).f1) ((rd_T52 x5_3 (ji21)).f2) t678 t679 t682).bind fun bt685 => (codewrightref55_Mul.l2 k3 l0 l1 (x5_3.set ((ji21) : Int).toNat (⟨bt685.1, bt685.2.1, bt685.2.2⟩ : S52)) x7_2 (wrap64 (x8_3 + 1)))) = some r := H
                 have A27 := zA A270
                 clear A270
                 replace H := Option.bind_eq_some_iff.mp H
                 obtain ⟨⟨t685, t686, t689⟩, A280, H⟩ := H
                 replace H : (codewrightref55_Mul.l2 k3 l0 l1 (x5_3.set ((ji21) : Int).toNat (⟨t685, t686, t689⟩ : S52)) x7_2 (wrap64 (x8_3 + 1))) = some r := H
                 have A28 := zA A280
                 clear A280
                 obtain ⟨y692, hy692⟩ : ∃ y_ : List (S52), y_ = (x5_3.set ((ji21) : Int).toNat (⟨t685, t686, t689⟩ : S52)) := ⟨_, rfl⟩
                 replace H : (codewrightref55_Mul.l2 k3 l0 l1 y692 x7_2 (wrap64 (x8_3 + 1))) = some r := by first | (rw [hy692]; with_reducible exact H) | (have H := (Option.bind_some _ _).symm.trans H; first | (rw [hy692]; with_reducible exact H) | with_reducible exact H) | (rw [hy692]; exact H) | exact H
                 have Ny692 := zA hy692
                 clear hy692
                 have H' := zA H
                 clear H
                 try go_wp2
                 have n0_ := zA (Kd.N_drew HO_5.out)
                 have n1_ := zA (below_drew1 HB.out)
                 clear HO_5
                 clear HB
                 have HO_5 := n0_
                 have HB := n1_
                 clear n0_ n1_
                 have p675 : 0 ≤ ((ji21) : Int) := of_decide_eq_true (by assumption)
                 have q675 : (ji21) < (x5_3.length : Int) := of_decide_eq_true (by assumption)
                 obtain ⟨ad675, A675_1, c675_1, A675_2, c675_2, e675, hx675_0, hx675_1, hx675_2, hl675_1, hi675_1, hl675_2, hi675_2⟩ := at_T52 (Kd.N_reads' HO_5.out).2.2 (ji21) p675 q675
                 cases e675
                 obtain ⟨ce675, hce675, hMe675, hcc675⟩ := Kd.N_get HO_5.out z52 (ji21) p675 (by first | exact q675 | exact of_decide_eq_true (by assumption) | (have e_ := (Kd.N_reads' HO_5.out).1; omega))
                 obtain ⟨ua675_1, uc675_1, ua675_2, uc675_2, rfl, ul675_1, ge675_1, ul675_2, ge675_2⟩ := k52_openF hMe675
                 have hv675_1 := hcc675 1 _ rfl
                 rw [add_field _ _ 1 (by omega)] at hv675_1
                 replace hv675_1 := Option.some.inj (hv675_1.symm.trans hx675_1)
                 injection hv675_1 with hva_ hvn_ hvc_
                 rw [hva_] at ge675_1
                 rw [hvc_] at ul675_1
                 have HL675_1 := zA (show Kd.V (Kd.int .u32) 79 _ w.heap.size _ _ ((rd_T52 x5_3 (ji21)).f1) from Kd.V_mk ul675_1 ge675_1)
                 clear hva_ hvn_ hvc_ ge675_1 ul675_1
                 have hv675_2 := hcc675 2 _ rfl
                 rw [add_field _ _ 2 (by omega)] at hv675_2
                 replace hv675_2 := Option.some.inj (hv675_2.symm.trans hx675_2)
                 injection hv675_2 with hva_ hvn_ hvc_
                 rw [hva_] at ge675_2
                 rw [hvc_] at ul675_2
                 have HL675_2 := zA (show Kd.V (Kd.int .u32) 79 _ w.heap.size _ _ ((rd_T52 x5_3 (ji21)).f2) from Kd.V_mk ul675_2 ge675_2)
                 clear hva_ hvn_ hvc_ ge675_2 ul675_2
                 clear hcc675 hce675
                 have HR675_1 := zA hi675_1
                 have HC675_1 := zA hl675_1
                 clear hi675_1 hl675_1
                 have HR675_2 := zA hi675_2
                 have HC675_2 := zA hl675_2
                 clear hi675_2 hl675_2
                 replace p675 := eq_true p675
                 replace q675 := eq_true q675
                 have p676 : 0 ≤ (x7_2 : Int) := of_decide_eq_true (by assumption)
                 have q676 : x7_2 < (l0.length : Int) := of_decide_eq_true (by assumption)
                 obtain ⟨ad676, A676_1, c676_1, A676_2, c676_2, e676, hx676_0, hx676_1, hx676_2, hl676_1, hi676_1, hl676_2, hi676_2⟩ := at_T52 HR0.out x7_2 p676 q676
                 have hw676_2 := hx676_2
                 have hw676_1 := hx676_1
                 have hw676_0 := hx676_0
                 cases e676
                 replace hx676_0 := (HB.out.cell (World.block_lt_of_cell? w _ hx676_0)).trans hx676_0
                 replace hx676_1 := (HB.out.cell (World.block_lt_of_cell? w _ hx676_1)).trans hx676_1
                 replace hx676_2 := (HB.out.cell (World.block_lt_of_cell? w _ hx676_2)).trans hx676_2
                 have HR676_1 := zA hi676_1
                 have HC676_1 := zA hl676_1
                 clear hi676_1 hl676_1
                 have HR676_2 := zA hi676_2
                 have HC676_2 := zA hl676_2
                 clear hi676_2 hl676_2
                 replace p676 := eq_true p676
                 replace q676 := eq_true q676
                 have p677 : 0 ≤ (x8_3 : Int) := of_decide_eq_true (by assumption)
                 have q677 : x8_3 < (l1.length : Int) := of_decide_eq_true (by assumption)
                 obtain ⟨ad677, A677_1, c677_1, A677_2, c677_2, e677, hx677_0, hx677_1, hx677_2, hl677_1, hi677_1, hl677_2, hi677_2⟩ := at_T52 HR1.out x8_3 p677 q677
                 have hw677_2 := hx677_2
                 have hw677_1 := hx677_1
                 have hw677_0 := hx677_0
                 cases e677
                 replace hx677_0 := (HB.out.cell (World.block_lt_of_cell? w _ hx677_0)).trans hx677_0
                 replace hx677_1 := (HB.out.cell (World.block_lt_of_cell? w _ hx677_1)).trans hx677_1
                 replace hx677_2 := (HB.out.cell (World.block_lt_of_cell? w _ hx677_2)).trans hx677_2
                 have HR677_1 := zA hi677_1
                 have HC677_1 := zA hl677_1
                 clear hi677_1 hl677_1
                 have HR677_2 := zA hi677_2
                 have HC677_2 := zA hl677_2
                 clear hi677_2 hl677_2
                 replace p677 := eq_true p677
                 replace q677 := eq_true q677
                 refine start_ (n := 22) (S := fun w' => w'.cell? (ad675.add (((ji21)).toNat * 3)) = some (.bool ((rd_T52 x5_3 (ji21)).f0)) ∧ w'.cell? ⟨(ad675.add (((ji21)).toNat * 3)).block, (ad675.add (((ji21)).toNat * 3)).off + 1, none⟩ = some (.slice A675_1 ((rd_T52 x5_3 (ji21)).f1).length c675_1) ∧ w'.cell? ⟨(ad675.add (((ji21)).toNat * 3)).block, (ad675.add (((ji21)).toNat * 3)).off + 2, none⟩ = some (.slice A675_2 ((rd_T52 x5_3 (ji21)).f2).length c675_2) ∧ w'.cell? (ad676.add ((x7_2).toNat * 3)) = some (.bool ((rd_T52 l0 x7_2).f0)) ∧ w'.cell? ⟨(ad676.add ((x7_2).toNat * 3)).block, (ad676.add ((x7_2).toNat * 3)).off + 1, none⟩ = some (.slice A676_1 ((rd_T52 l0 x7_2).f1).length c676_1) ∧ w'.cell? ⟨(ad676.add ((x7_2).toNat * 3)).block, (ad676.add ((x7_2).toNat * 3)).off + 2, none⟩ = some (.slice A676_2 ((rd_T52 l0 x7_2).f2).length c676_2) ∧ w'.cell? (ad677.add ((x8_3).toNat * 3)) = some (.bool ((rd_T52 l1 x8_3).f0)) ∧ w'.cell? ⟨(ad677.add ((x8_3).toNat * 3)).block, (ad677.add ((x8_3).toNat * 3)).off + 1, none⟩ = some (.slice A677_1 ((rd_T52 l1 x8_3).f1).length c677_1) ∧ w'.cell? ⟨(ad677.add ((x8_3).toNat * 3)).block, (ad677.add ((x8_3).toNat * 3)).off + 2, none⟩ = some (.slice A677_2 ((rd_T52 l1 x8_3).f2).length c677_2)) (ds := [21]) #[false, false, false, false, false, false, false, false, false, false, false, false, false, false, false, false, false, false, false, false, false, false] (by kernel_rfl) rfl rfl ⟨hx675_0, hx675_1, hx675_2, ((HB.out.cell (World.block_lt_of_cell? w _ hw676_0)).trans hw676_0), ((HB.out.cell (World.block_lt_of_cell? w _ hw676_1)).trans hw676_1), ((HB.out.cell (World.block_lt_of_cell? w _ hw676_2)).trans hw676_2), ((HB.out.cell (World.block_lt_of_cell? w _ hw677_0)).trans hw677_0), ((HB.out.cell (World.block_lt_of_cell? w _ hw677_1)).trans hw677_1), ((HB.out.cell (World.block_lt_of_cell? w _ hw677_2)).trans hw677_2)⟩ (fun hHeld => ?_); refine with_tabW codewrightref55_Mul.tab12 codewrightref55_Mul.bits12 (fun HT_ HW_ => ?_)
                 generalize wr.drew = w30 at HO_5 HB HL675_1 HL675_2 HR675_1 HR675_2 HR676_1 HR676_2 HR677_1 HR677_2 hx675_0 hx675_1 hx675_2 hx676_0 hx676_1 hx676_2 hx677_0 hx677_1 hx677_2 hHeld ⊢
                 refine pure_ (i := 0) (N := some 37) (v := ?_) (a' := ?_) #[true, false, false, false, false, false, false, false, false, false, false, false, false, false, false, false, false, false, false, false, false, false] rfl rfl (any_of HT_.out (by kernel_rfl)) (fun _ _ _ h => h) (Or.inl ⟨by rfl, ?_⟩) ?_ ?_
                 rotate_left
                 ·
                  intro w'
                  go_simp
                  with_reducible rfl
                 rotate_left
                 ·
                  simp only [Act.put, List.setIfInBounds_toArray, List.set_cons_zero, List.set_cons_succ, i64_w, i32_w]
                  rfl
                 refine pure_ (i := 1) (N := some 38) (v := ?_) (a' := ?_) #[true, true, false, false, false, false, false, false, false, false, false, false, false, false, false, false, false, false, false, false, false, false] rfl rfl (any_of HT_.out (by kernel_rfl)) (fun _ _ _ h => h) (Or.inl ⟨by rfl, ?_⟩) ?_ ?_
                 rotate_left
                 ·
                  intro w'
                  go_simp
                  with_reducible rfl
                 rotate_left
                 ·
                  simp only [Act.put, List.setIfInBounds_toArray, List.set_cons_zero, List.set_cons_succ, i64_w, i32_w]
                  rfl
                 refine pure_ (i := 2) (N := some 39) (v := ?_) (a' := ?_) #[true, true, true, false, false, false, false, false, false, false, false, false, false, false, false, false, false, false, false, false, false, false] rfl rfl (any_of HT_.out (by kernel_rfl)) (fun _ _ _ h => h) (Or.inl ⟨by rfl, ?_⟩) ?_ ?_
                 rotate_left
                 ·
                  intro w'
                  go_simp
                  with_reducible rfl
                 rotate_left
                 ·
                  simp only [Act.put, List.setIfInBounds_toArray, List.set_cons_zero, List.set_cons_succ, i64_w, i32_w]
                  rfl
                 refine pure_ (i := 3) (N := some 40) (v := ?_) (a' := ?_) #[true, true, true, true, false, false, false, false, false, false, false, false, false, false, false, false, false, false, false, false, false, false] rfl rfl (any_of HT_.out (by kernel_rfl)) (fun _ _ _ h => h) (Or.inl ⟨by rfl, ?_⟩) ?_ ?_
                 rotate_left
                 ·
                  intro w'
                  go_simp
                  with_reducible rfl
                 rotate_left
                 ·
                  simp only [Act.put, List.setIfInBounds_toArray, List.set_cons_zero, List.set_cons_succ, i64_w, i32_w]
                  rfl
                 refine pure_ (i := 4) (N := some 41) (v := ?_) (a' := ?_) #[true, true, true, true, true, false, false, false, false, false, false, false, false, false, false, false, false, false, false, false, false, false] rfl rfl (any_of HT_.out (by kernel_rfl)) (fun _ _ _ h => h) (Or.inl ⟨by rfl, ?_⟩) ?_ ?_
                 rotate_left
                 ·
                  intro w'
                  go_simp
                  with_reducible rfl
                 rotate_left
                 ·
                  simp only [Act.put, List.setIfInBounds_toArray, List.set_cons_zero, List.set_cons_succ, i64_w, i32_w]
                  rfl
                 refine pure_ (i := 5) (N := some 42) (v := ?_) (a' := ?_) #[true, true, true, true, true, true, false, false, false, false, false, false, false, false, false, false, false, false, false, false, false, false] rfl rfl (any_of HT_.out (by kernel_rfl)) (fun _ _ _ h => h) (Or.inl ⟨by rfl, ?_⟩) ?_ ?_
                 rotate_left
                 ·
                  intro w'
                  go_simp
                  with_reducible rfl
                 rotate_left
                 ·
                  simp only [Act.put, List.setIfInBounds_toArray, List.set_cons_zero, List.set_cons_succ, i64_w, i32_w]
                  rfl
                 refine pure_ (i := 6) (N := some 43) (v := ?_) (a' := ?_) #[true, true, true, true, true, true, true, false, false, false, false, false, false, false, false, false, false, false, false, false, false, false] rfl rfl (any_of HT_.out (by kernel_rfl)) (fun _ _ _ h => h) (Or.inl ⟨by rfl, ?_⟩) ?_ ?_
                 rotate_left
                 ·
                  intro w'
                  go_simp
                  with_reducible rfl
                 rotate_left
                 ·
                  simp only [Act.put, List.setIfInBounds_toArray, List.set_cons_zero, List.set_cons_succ, i64_w, i32_w]
                  rfl
                 refine pure_ (i := 7) (N := some 44) (v := ?_) (a' := ?_) #[true, true, true, true, true, true, true, true, false, false, false, false, false, false, false, false, false, false, false, false, false, false] rfl rfl (any_of HT_.out (by kernel_rfl)) (fun _ _ _ h => h) (Or.inl ⟨by rfl, ?_⟩) ?_ ?_
                 rotate_left
                 ·
                  intro w'
                  go_simp
                  with_reducible rfl
                 rotate_left
                 ·
                  simp only [Act.put, List.setIfInBounds_toArray, List.set_cons_zero, List.set_cons_succ, i64_w, i32_w]
                  rfl
                 refine pure_ (i := 8) (N := some 45) (v := ?_) (a' := ?_) #[true, true, true, true, true, true, true, true, true, false, false, false, false, false, false, false, false, false, false, false, false, false] rfl rfl (any_of HT_.out (by kernel_rfl)) (fun _ _ _ h => h) (Or.inl ⟨by rfl, ?_⟩) ?_ ?_
                 rotate_left
                 ·
                  intro w'
                  go_simp
                  with_reducible rfl
                 rotate_left
                 ·
                  simp only [Act.put, List.setIfInBounds_toArray, List.set_cons_zero, List.set_cons_succ, i64_w, i32_w]
                  rfl
                 refine pure_ (i := 10) (N := some 47) (v := ?_) (a' := ?_) #[true, true, true, true, true, true, true, true, true, false, true, false, false, false, false, false, false, false, false, false, false, false] rfl rfl (any_of HT_.out (by kernel_rfl)) (fun _ _ _ h => h) (Or.inl ⟨by rfl, ?_⟩) ?_ ?_
                 rotate_left
                 ·
                  intro w'
                  go_simp
                  with_reducible rfl
                 rotate_left
                 ·
                  simp only [Act.put, List.setIfInBounds_toArray, List.set_cons_zero, List.set_cons_succ, i64_w, i32_w]
                  rfl
                 refine pure_ (i := 11) (N := some 48) (v := ?_) (a' := ?_) #[true, true, true, true, true, true, true, true, true, false, true, true, false, false, false, false, false, false, false, false, false, false] rfl rfl (any_of HT_.out (by kernel_rfl)) (fun _ _ _ h => h) (Or.inl ⟨by rfl, ?_⟩) ?_ ?_
                 rotate_left
                 ·
                  intro w'
                  go_simp
                  with_reducible rfl
                 rotate_left
                 ·
                  simp only [Act.put, List.setIfInBounds_toArray, List.set_cons_zero, List.set_cons_succ, i64_w, i32_w]
                  rfl
                 refine pure_ (i := 12) (N := some 49) (v := ?_) (a' := ?_) #[true, true, true, true, true, true, true, true, true, false, true, true, true, false, false, false, false, false, false, false, false, false] rfl rfl (any_of HT_.out (by kernel_rfl)) (fun _ _ _ h => h) (Or.inl ⟨by rfl, ?_⟩) ?_ ?_
                 rotate_left
                 ·
                  intro w'
                  go_simp
                  with_reducible rfl
                 rotate_left
                 ·
                  simp only [Act.put, List.setIfInBounds_toArray, List.set_cons_zero, List.set_cons_succ, i64_w, i32_w]
                  rfl
                 refine pure_ (i := 14) (N := some 51) (v := ?_) (a' := ?_) #[true, true, true, true, true, true, true, true, true, false, true, true, true, false, true, false, false, false, false, false, false, false] rfl rfl (any_of HT_.out (by kernel_rfl)) (fun _ _ _ h => h) (Or.inl ⟨by rfl, ?_⟩) ?_ ?_
                 rotate_left
                 ·
                  intro w'
                  go_simp
                  with_reducible rfl
                 rotate_left
                 ·
                  simp only [Act.put, List.setIfInBounds_toArray, List.set_cons_zero, List.set_cons_succ, i64_w, i32_w]
                  rfl
                 refine pure_ (i := 15) (N := some 52) (v := ?_) (a' := ?_) #[true, true, true, true, true, true, true, true, true, false, true, true, true, false, true, true, false, false, false, false, false, false] rfl rfl (any_of HT_.out (by kernel_rfl)) (fun _ _ _ h => h) (Or.inl ⟨by rfl, ?_⟩) ?_ ?_
                 rotate_left
                 ·
                  intro w'
                  go_simp
                  with_reducible rfl
                 rotate_left
                 ·
                  simp only [Act.put, List.setIfInBounds_toArray, List.set_cons_zero, List.set_cons_succ, i64_w, i32_w]
                  rfl
                 refine pure_ (i := 16) (N := some 53) (v := ?_) (a' := ?_) #[true, true, true, true, true, true, true, true, true, false, true, true, true, false, true, true, true, false, false, false, false, false] rfl rfl (any_of HT_.out (by kernel_rfl)) (fun _ _ _ h => h) (Or.inl ⟨by rfl, ?_⟩) ?_ ?_
                 rotate_left
                 ·
                  intro w'
                  go_simp
                  with_reducible rfl
                 rotate_left
                 ·
                  simp only [Act.put, List.setIfInBounds_toArray, List.set_cons_zero, List.set_cons_succ, i64_w, i32_w]
                  rfl
                 refine take_ (i := 9) (N := some 46) (v := ?_) (a' := ?_) #[true, true, true, true, true, true, true, true, true, true, true, true, true, false, true, true, true, false, false, false, false, false] rfl rfl (take_ofW HT_.out HW_.out (by kernel_rfl)) (fun _ _ _ h => h) (Or.inl ⟨by rfl, ?_⟩) hHeld ?_ ?_
                 rotate_left
                 ·
                  rintro w' ⟨s0, s1, s2, s3, s4, s5, s6, s7, s8⟩
                  go_simp
                  with_reducible rfl
                 rotate_left
                 ·
                  simp only [Act.put, List.setIfInBounds_toArray, List.set_cons_zero, List.set_cons_succ, i64_w, i32_w]
                  rfl
                 refine take_ (i := 13) (N := some 50) (v := ?_) (a' := ?_) #[true, true, true, true, true, true, true, true, true, true, true, true, true, true, true, true, true, false, false, false, false, false] rfl rfl (take_ofW HT_.out HW_.out (by kernel_rfl)) (fun _ _ _ h => h) (Or.inl ⟨by rfl, ?_⟩) hHeld ?_ ?_
                 rotate_left
                 ·
                  rintro w' ⟨s0, s1, s2, s3, s4, s5, s6, s7, s8⟩
                  go_simp
                  with_reducible rfl
                 rotate_left
                 ·
                  simp only [Act.put, List.setIfInBounds_toArray, List.set_cons_zero, List.set_cons_succ, i64_w, i32_w]
                  rfl
                 refine take_ (i := 17) (N := some 54) (v := ?_) (a' := ?_) #[true, true, true, true, true, true, true, true, true, true, true, true, true, true, true, true, true, true, false, false, false, false] rfl rfl (take_ofW HT_.out HW_.out (by kernel_rfl)) (fun _ _ _ h => h) (Or.inl ⟨by rfl, ?_⟩) hHeld ?_ ?_
                 rotate_left
                 ·
                  rintro w' ⟨s0, s1, s2, s3, s4, s5, s6, s7, s8⟩
                  go_simp
                  with_reducible rfl
                 rotate_left
                 ·
                  simp only [Act.put, List.setIfInBounds_toArray, List.set_cons_zero, List.set_cons_succ, i64_w, i32_w]
                  rfl
                 refine one_ (i := 18) (N := some 55) #[true, true, true, true, true, true, true, true, true, true, true, true, true, true, true, true, true, true, true, false, false, false] rfl rfl (one_of HT_.out (by kernel_rfl)) (by decide) (fun K hK => ?_)
                 refine goes_ Try.func44 (by kernel_rfl) rfl #[.agg #[.bool ((rd_T52 l0 x7_2).f0), .slice A676_1 ((rd_T52 l0 x7_2).f1).length c676_1, .slice A676_2 ((rd_T52 l0 x7_2).f2).length c676_2], .agg #[.bool ((rd_T52 l1 x8_3).f0), .slice A677_1 ((rd_T52 l1 x8_3).f1).length c677_1, .slice A677_2 ((rd_T52 l1 x8_3).f2).length c677_2]] (by rfl) rfl rfl (by (try simp only [List.map_toArray, List.map_cons, List.map_nil]); first | done | rfl | (simp only [List.length_drop, List.length_take]; rfl)) ?_
                 with_reducible refine (codewrightref02_Mul.calls k3 ((rd_T52 l0 x7_2).f0) _ _ ((rd_T52 l0 x7_2).f1) _ _ ((rd_T52 l0 x7_2).f2) ((rd_T52 l1 x8_3).f0) _ _ ((rd_T52 l1 x8_3).f1) _ _ ((rd_T52 l1 x8_3).f2) t678 t679 t682 _ ?side1 ?side2 ?side3 ?side4 ?side5 ?side6 ?side7 ?side8 A27.out).mono ?_
                 (case side1 => exact zC ((Kd.C_below HR676_1.out HB.out)))
                 (case side2 => exact HC676_1.out)
                 (case side3 => exact zC ((Kd.C_below HR676_2.out HB.out)))
                 (case side4 => exact HC676_2.out)
                 (case side5 => exact zC ((Kd.C_below HR677_1.out HB.out)))
                 (case side6 => exact HC677_1.out)
                 (case side7 => exact zC ((Kd.C_below HR677_2.out HB.out)))
                 (case side8 => exact HC677_2.out)
                 rintro e w31 ⟨v680, v683, rfl, ho0, ho1, hb⟩
                 have HS0_ := (hb.cell (World.block_lt_of_cell? _ _ (hHeld.1))).trans (hHeld.1)
                 have HS1_ := (hb.cell (World.block_lt_of_cell? _ _ (hHeld.2.1))).trans (hHeld.2.1)
                 have HS2_ := (hb.cell (World.block_lt_of_cell? _ _ (hHeld.2.2.1))).trans (hHeld.2.2.1)
                 refine ⟨_, rfl, ?_⟩
                 have n0_ := zA (Kd.N_mono (Kd.N_told (Kd.N_told (Kd.N_old (by exact zN HO_5) hb) (Kd.R_base ho0)) (Kd.R_base ho1)) (fun _ h_ => h_.1))
                 have n1_ := zA (Kd.V_mono (Kd.V_told (Kd.V_told (Kd.V_old (by (with_reducible repeat (first | apply Kd.V_alloc | apply Kd.V_drewN | apply Kd.V_drew)); exact HL675_1.out) hb) (Kd.R_base ho0)) (Kd.R_base ho1)) (fun _ h_ => h_.1))
                 have n2_ := zA (Kd.V_mono (Kd.V_told (Kd.V_told (Kd.V_old (by (with_reducible repeat (first | apply Kd.V_alloc | apply Kd.V_drewN | apply Kd.V_drew)); exact HL675_2.out) hb) (Kd.R_base ho0)) (Kd.R_base ho1)) (fun _ h_ => h_.1))
                 have n3_ := zA (Kd.R_lower (Kd.R_newM (M := fun k_ => (w.heap.size ≤ k_)) ho0 (below_size (by exact zB HB)) (fun k_ h_ => h_)) (below_size (by exact zB HB)))
                 have n4_ := zA (Kd.R_lower (Kd.R_newM (M := fun k_ => (w.heap.size ≤ k_)) ho1 (below_size (by exact zB HB)) (fun k_ h_ => h_)) (below_size (by exact zB HB)))
                 have n5_ := zA (Kd.C_below (by repeat (first | (with_reducible exact HR675_1.out) | (with_reducible refine Kd.C_alloc ?_ _) | (with_reducible refine Kd.C_drewN ?_ _) | (with_reducible refine Kd.C_drew ?_) | exact HR675_1.out)) hb)
                 have n6_ := zA (Kd.C_below (by repeat (first | (with_reducible exact HR675_2.out) | (with_reducible refine Kd.C_alloc ?_ _) | (with_reducible refine Kd.C_drewN ?_ _) | (with_reducible refine Kd.C_drew ?_) | exact HR675_2.out)) hb)
                 have n7_ := zA (below_step (by exact zB HB) hb)
                 clear HO_5
                 clear HL675_1
                 clear HL675_2
                 clear HR675_1
                 clear HR675_2
                 clear HB
                 have HO_5 := n0_
                 have HL675_1 := n1_
                 have HL675_2 := n2_
                 have HO681 := n3_
                 have HO684 := n4_
                 have HR675_1 := n5_
                 have HR675_2 := n6_
                 have HB := n7_
                 clear n0_ n1_ n2_ n3_ n4_ n5_ n6_ n7_
                 (try clear hb)
                 (try clear hb2)
                 (try clear hk)
                 (try clear hi)
                 (try clear ho0)
                 (try clear ho1)
                 obtain ⟨Ao32, co32, eo32⟩ := Kd.R_slice HO681.out
                 (first | subst eo32 | (injection eo32 with f1_ f2_ f3_; have f4_ := f1_.symm; have f5_ := f3_.symm; clear f1_ f2_ f3_; subst f4_; subst f5_))
                 obtain ⟨Ao33, co33, eo33⟩ := Kd.R_slice HO684.out
                 (first | subst eo33 | (injection eo33 with f1_ f2_ f3_; have f4_ := f1_.symm; have f5_ := f3_.symm; clear f1_ f2_ f3_; subst f4_; subst f5_))
                 refine hK.out _ _ ⟨HS0_, HS1_, HS2_, ((HB.out.cell (World.block_lt_of_cell? w _ hw676_0)).trans hw676_0), ((HB.out.cell (World.block_lt_of_cell? w _ hw676_1)).trans hw676_1), ((HB.out.cell (World.block_lt_of_cell? w _ hw676_2)).trans hw676_2), ((HB.out.cell (World.block_lt_of_cell? w _ hw677_0)).trans hw677_0), ((HB.out.cell (World.block_lt_of_cell? w _ hw677_1)).trans hw677_1), ((HB.out.cell (World.block_lt_of_cell? w _ hw677_2)).trans hw677_2)⟩ (fun hHeld => ?_)
                 clear hK K
                 refine norm_ (a' := ?_) ?_ ?_
                 rotate_left
                 ·
                  show Act.put _ (some 55) _ = _
                  simp only [Act.put, List.setIfInBounds_toArray, List.set_cons_zero, List.set_cons_succ, i64_w, i32_w]
                  rfl
                 refine one_ (i := 19) (N := some 56) #[true, true, true, true, true, true, true, true, true, true, true, true, true, true, true, true, true, true, true, true, false, false] rfl rfl (one_of HT_.out (by kernel_rfl)) (by decide) (fun K hK => ?_)
                 refine goes_ Try.func43 (by kernel_rfl) rfl #[.agg #[.bool ((rd_T52 x5_3 (ji21)).f0), .slice A675_1 ((rd_T52 x5_3 (ji21)).f1).length c675_1, .slice A675_2 ((rd_T52 x5_3 (ji21)).f2).length c675_2], .agg #[.bool t678, .slice Ao32 t679.length co32, .slice Ao33 t682.length co33]] (by rfl) rfl rfl (by (try simp only [List.map_toArray, List.map_cons, List.map_nil]); first | done | (simp only [hji21]; rfl) | rfl | (simp only [List.length_drop, List.length_take]; rfl)) ?_
                 with_reducible refine (codewrightref02_Add.calls k3 ((rd_T52 x5_3 (ji21)).f0) _ _ ((rd_T52 x5_3 (ji21)).f1) _ _ ((rd_T52 x5_3 (ji21)).f2) t678 _ _ t679 _ _ t682 t685 t686 t689 _ ?side1 ?side2 ?side3 ?side4 ?side5 ?side6 ?side7 ?side8 A28.out).mono ?_
                 (case side1 => repeat (first | exact (by repeat (first | (with_reducible exact HR675_1.out) | (with_reducible refine Kd.C_alloc ?_ _) | (with_reducible refine Kd.C_drewN ?_ _) | (with_reducible refine Kd.C_drew ?_) | exact HR675_1.out)) | (with_reducible refine Kd.C_alloc ?_ _) | (with_reducible refine Kd.C_drewN ?_ _) | (with_reducible refine Kd.C_drew ?_)))
                 (case side2 => exact HC675_1.out)
                 (case side3 => repeat (first | exact (by repeat (first | (with_reducible exact HR675_2.out) | (with_reducible refine Kd.C_alloc ?_ _) | (with_reducible refine Kd.C_drewN ?_ _) | (with_reducible refine Kd.C_drew ?_) | exact HR675_2.out)) | (with_reducible refine Kd.C_alloc ?_ _) | (with_reducible refine Kd.C_drewN ?_ _) | (with_reducible refine Kd.C_drew ?_)))
                 (case side4 => exact HC675_2.out)
                 (case side5 => exact zC ((Kd.R_reads' HO681.out).2.2))
                 (case side6 => exact (Kd.R_reads' HO681.out).2.1)
                 (case side7 => exact zC ((Kd.R_reads' HO684.out).2.2))
                 (case side8 => exact (Kd.R_reads' HO684.out).2.1)
                 rintro e w34 ⟨v687, v690, rfl, ho0, ho1, hb⟩
                 have HS0_ := (hb.cell (World.block_lt_of_cell? _ _ (hHeld.1))).trans (hHeld.1)
                 have HS1_ := (hb.cell (World.block_lt_of_cell? _ _ (hHeld.2.1))).trans (hHeld.2.1)
                 have HS2_ := (hb.cell (World.block_lt_of_cell? _ _ (hHeld.2.2.1))).trans (hHeld.2.2.1)
                 refine ⟨_, rfl, ?_⟩
                 have n0_ := zA (Kd.N_mono (Kd.N_told (Kd.N_told (Kd.N_old (by exact zN HO_5) hb) (Kd.R_base ho0)) (Kd.R_base ho1)) (fun _ h_ => h_.1))
                 have n1_ := zA (Kd.V_mono (Kd.V_told (Kd.V_told (Kd.V_old (by (with_reducible repeat (first | apply Kd.V_alloc | apply Kd.V_drewN | apply Kd.V_drew)); exact HL675_1.out) hb) (Kd.R_base ho0)) (Kd.R_base ho1)) (fun _ h_ => h_.1))
                 have n2_ := zA (Kd.V_mono (Kd.V_told (Kd.V_told (Kd.V_old (by (with_reducible repeat (first | apply Kd.V_alloc | apply Kd.V_drewN | apply Kd.V_drew)); exact HL675_2.out) hb) (Kd.R_base ho0)) (Kd.R_base ho1)) (fun _ h_ => h_.1))
                 have n3_ := zA (Kd.R_mono (Kd.R_told (Kd.R_told (Kd.R_old (by exact zR HO681) hb) (Kd.R_base ho0)) (Kd.R_base ho1)) (fun _ h_ => h_.1))
                 have n4_ := zA (Kd.R_mono (Kd.R_told (Kd.R_told (Kd.R_old (by exact zR HO684) hb) (Kd.R_base ho0)) (Kd.R_base ho1)) (fun _ h_ => h_.1))
                 have n5_ := zA (Kd.R_lower (Kd.R_new' (Kd.R_new' (Kd.R_newM (M := fun k_ => (w.heap.size ≤ k_)) ho0 (below_size (by exact zB HB)) (fun k_ h_ => h_)) (Kd.R_lt (by exact zR HO681))) (Kd.R_lt (by exact zR HO684))) (below_size (by exact zB HB)))
                 have n6_ := zA (Kd.R_lower (Kd.R_new' (Kd.R_new' (Kd.R_newM (M := fun k_ => (w.heap.size ≤ k_)) ho1 (below_size (by exact zB HB)) (fun k_ h_ => h_)) (Kd.R_lt (by exact zR HO681))) (Kd.R_lt (by exact zR HO684))) (below_size (by exact zB HB)))
                 have n7_ := zA (Kd.C_below (by repeat (first | (with_reducible exact HR675_1.out) | (with_reducible refine Kd.C_alloc ?_ _) | (with_reducible refine Kd.C_drewN ?_ _) | (with_reducible refine Kd.C_drew ?_) | exact HR675_1.out)) hb)
                 have n8_ := zA (Kd.C_below (by repeat (first | (with_reducible exact HR675_2.out) | (with_reducible refine Kd.C_alloc ?_ _) | (with_reducible refine Kd.C_drewN ?_ _) | (with_reducible refine Kd.C_drew ?_) | exact HR675_2.out)) hb)
                 have n9_ := zA (below_step (by exact zB HB) hb)
                 clear HO_5
                 clear HL675_1
                 clear HL675_2
                 clear HO681
                 clear HO684
                 clear HR675_1
                 clear HR675_2
                 clear HB
                 have HO_5 := n0_
                 have HL675_1 := n1_
                 have HL675_2 := n2_
                 have HO681 := n3_
                 have HO684 := n4_
                 have HO688 := n5_
                 have HO691 := n6_
                 have HR675_1 := n7_
                 have HR675_2 := n8_
                 have HB := n9_
                 clear n0_ n1_ n2_ n3_ n4_ n5_ n6_ n7_ n8_ n9_
                 (try clear hb)
                 (try clear hb2)
                 (try clear hk)
                 (try clear hi)
                 (try clear ho0)
                 (try clear ho1)
                 have p29 : 0 ≤ ((ji21) : Int) := of_decide_eq_true (by assumption)
                 have q29 : ((ji21) : Int) < ((x5_3.length : Int) : Int) := of_decide_eq_true (by assumption)
                 obtain ⟨go29, co29, eo29, gb29, gl29, cl29, HG29⟩ := Kd.N_form HO_5.out (by omega)
                 (first | cases eo29 | (injection eo29 with ea_ en_ ec_; (first | subst ea_ | (injection ea_ with ea_; subst ea_)); subst ec_; clear en_))
                 have GB29 := zA gb29
                 have GG29 := zA HG29
                 clear gb29 gl29 HG29
                 (first | simp only [add_plain] at hx675_0 | skip)
                 (first | simp only [add_plain] at hx675_1 | skip)
                 (first | simp only [add_plain] at hx675_2 | skip)
                 obtain ⟨ce29, hcl29, hM29, hcc29, hfr29⟩ := Kd.N_elem HO_5.out z52 ((ji21) : Int) p29 q29
                 obtain ⟨ua29_1, uc29_1, ua29_2, uc29_2, rfl, ul29_1, ge29_1, ul29_2, ge29_2⟩ := k52_openF hM29
                 have hx29_0 : World.cell? _ ⟨go29, ((ji21) : Int).toNat * 3, none⟩ = some (.bool ((rd_T52 x5_3 (ji21)).f0)) := hcc29 0 _ rfl
                 have hx29_1 : World.cell? _ ⟨go29, ((ji21) : Int).toNat * 3 + 1, none⟩ = some (.slice ua29_1 ((rd_T52 x5_3 (ji21)).f1).length uc29_1) := hcc29 1 _ rfl
                 have hx29_2 : World.cell? _ ⟨go29, ((ji21) : Int).toNat * 3 + 2, none⟩ = some (.slice ua29_2 ((rd_T52 x5_3 (ji21)).f2).length uc29_2) := hcc29 2 _ rfl
                 have hf29_0 : World.frozen? _ ⟨go29, ((ji21) : Int).toNat * 3, none⟩ = false := hfr29 0
                 have hf29_1 : World.frozen? _ ⟨go29, ((ji21) : Int).toNat * 3 + 1, none⟩ = false := hfr29 1
                 have hf29_2 : World.frozen? _ ⟨go29, ((ji21) : Int).toNat * 3 + 2, none⟩ = false := hfr29 2
                 clear hcl29 hcc29 hfr29 hM29
                 replace p29 := eq_true p29
                 replace q29 := eq_true q29
                 obtain ⟨Ao36, co36, eo36⟩ := Kd.R_slice HO688.out
                 (first | subst eo36 | (injection eo36 with f1_ f2_ f3_; have f4_ := f1_.symm; have f5_ := f3_.symm; clear f1_ f2_ f3_; subst f4_; subst f5_))
                 obtain ⟨Ao37, co37, eo37⟩ := Kd.R_slice HO691.out
                 (first | subst eo37 | (injection eo37 with f1_ f2_ f3_; have f4_ := f1_.symm; have f5_ := f3_.symm; clear f1_ f2_ f3_; subst f4_; subst f5_))
                 have HX35 := zA (show Kd.N k52 52 _ w.heap.size (fun k_ => (w.heap.size ≤ k_) ∧ some k_ ≠ (.slice Ao32 t679.length co32 : Value).ownBlock ∧ some k_ ≠ (.slice Ao33 t682.length co33 : Value).ownBlock ∧ some k_ ≠ (.slice Ao36 t686.length co36 : Value).ownBlock ∧ some k_ ≠ (.slice Ao37 t689.length co37 : Value).ownBlock) (.slice (some ⟨go29, 0, none⟩) x5_3.length co18) x5_3 from (Kd.N_mono (HO_5.out) (fun k_ hk => ⟨hk.1.1.1.1, ⟨hk.1.1.1.2, ⟨hk.1.1.2, ⟨hk.1.2, hk.2⟩⟩⟩⟩)))
                 replace HX35 := zA (show Kd.N k52 52 _ w.heap.size (fun k_ => (w.heap.size ≤ k_) ∧ some k_ ≠ (.slice Ao32 t679.length co32 : Value).ownBlock ∧ some k_ ≠ (.slice Ao33 t682.length co33 : Value).ownBlock) (.slice (some ⟨go29, 0, none⟩) x5_3.length co18) x5_3 from Kd.N_mono HX35.out (fun k_ hk => ⟨hk.1, ⟨hk.2.1, hk.2.2.1⟩⟩))
                 obtain ⟨ce35, hcl35, hM35, hcc35, hfr35⟩ := Kd.N_elem HX35.out z52 ((ji21) : Int) (of_decide_eq_true (by assumption)) (by have h_ : ((ji21) : Int) < ((x5_3.length : Int) : Int) := of_decide_eq_true (by assumption); first | exact h_ | (have e_ := (Kd.N_reads' HO_5.out).1; omega) | simpa using h_)
                 obtain ⟨ua35_1, uc35_1, ua35_2, uc35_2, rfl, ul35_1, ge35_1, ul35_2, ge35_2⟩ := k52_openF hM35
                 have HP35 := (Kd.N_seg HX35.out ((ji21) : Int) (of_decide_eq_true (by assumption)) (by have h_ : ((ji21) : Int) < ((x5_3.length : Int) : Int) := of_decide_eq_true (by assumption); first | exact h_ | (have e_ := (Kd.N_reads' HO_5.out).1; omega) | simpa using h_) (seg := [.bool t685, .slice Ao36 t686.length co36, .slice Ao37 t689.length co37]) (j := 0) hcl35 hcc35 (show 3 ≤ 3 from by decide) (x' := (⟨t685, t686, t689⟩ : S52)) (k52_mkF _ _ (⟨t685, t686, t689⟩ : S52) (Kd.R_reads' (Kd.R_mono (ok' := (fun k_ => ((fun k_ => (w.heap.size ≤ k_) ∧ some k_ ≠ (.slice Ao32 t679.length co32 : Value).ownBlock ∧ some k_ ≠ (.slice Ao33 t682.length co33 : Value).ownBlock)) k_ ∧ k_ ≠ go29)) (Kd.R_apart' (HO688.out) (Kd.N_typed HO_5.out) (by decide)) (fun k_ hk => ⟨⟨hk.1.1.1.1, ⟨hk.1.1.2, hk.1.2⟩⟩, fun e_ => (hk.2) (by rw [e_]; rfl)⟩))).2.1 (Kd.R_F (Kd.R_mono (ok' := (fun k_ => ((fun k_ => (w.heap.size ≤ k_) ∧ some k_ ≠ (.slice Ao32 t679.length co32 : Value).ownBlock ∧ some k_ ≠ (.slice Ao33 t682.length co33 : Value).ownBlock)) k_ ∧ k_ ≠ go29)) (Kd.R_apart' (HO688.out) (Kd.N_typed HO_5.out) (by decide)) (fun k_ hk => ⟨⟨hk.1.1.1.1, ⟨hk.1.1.2, hk.1.2⟩⟩, fun e_ => (hk.2) (by rw [e_]; rfl)⟩))) (Kd.R_reads' (Kd.R_mono (ok' := (fun k_ => ((fun k_ => (w.heap.size ≤ k_) ∧ some k_ ≠ (.slice Ao32 t679.length co32 : Value).ownBlock ∧ some k_ ≠ (.slice Ao33 t682.length co33 : Value).ownBlock)) k_ ∧ k_ ≠ go29)) (Kd.R_apart' (HO691.out) (Kd.N_typed HO_5.out) (by decide)) (fun k_ hk => ⟨⟨hk.1.1.1.1, ⟨hk.1.1.2, hk.1.2⟩⟩, fun e_ => (hk.2) (by rw [e_]; rfl)⟩))).2.1 (Kd.R_F (Kd.R_mono (ok' := (fun k_ => ((fun k_ => (w.heap.size ≤ k_) ∧ some k_ ≠ (.slice Ao32 t679.length co32 : Value).ownBlock ∧ some k_ ≠ (.slice Ao33 t682.length co33 : Value).ownBlock)) k_ ∧ k_ ≠ go29)) (Kd.R_apart' (HO691.out) (Kd.N_typed HO_5.out) (by decide)) (fun k_ hk => ⟨⟨hk.1.1.1.1, ⟨hk.1.1.2, hk.1.2⟩⟩, fun e_ => (hk.2) (by rw [e_]; rfl)⟩)))) (fun _ hk => hk)).1
                 rw [← Ny692.out] at HP35
                 have HQ35 := zA HP35
                 clear hcl35 hcc35 hfr35 hM35 HP35
                 refine hK.out _ _ ⟨HS0_, HS1_, HS2_, ((HB.out.cell (World.block_lt_of_cell? w _ hw676_0)).trans hw676_0), ((HB.out.cell (World.block_lt_of_cell? w _ hw676_1)).trans hw676_1), ((HB.out.cell (World.block_lt_of_cell? w _ hw676_2)).trans hw676_2), ((HB.out.cell (World.block_lt_of_cell? w _ hw677_0)).trans hw677_0), ((HB.out.cell (World.block_lt_of_cell? w _ hw677_1)).trans hw677_1), ((HB.out.cell (World.block_lt_of_cell? w _ hw677_2)).trans hw677_2)⟩ (fun hHeld => ?_)
                 clear hK K
                 refine norm_ (a' := ?_) ?_ ?_
                 rotate_left
                 ·
                  show Act.put _ (some 56) _ = _
                  simp only [Act.put, List.setIfInBounds_toArray, List.set_cons_zero, List.set_cons_succ, i64_w, i32_w]
                  rfl
                 refine pure_ (i := 20) (N := some 57) (v := ?_) (a' := ?_) #[true, true, true, true, true, true, true, true, true, true, true, true, true, true, true, true, true, true, true, true, true, false] rfl rfl (any_of HT_.out (by kernel_rfl)) (fun _ _ _ h => h) (Or.inl ⟨by rfl, ?_⟩) ?_ ?_
                 rotate_left
                 ·
                  intro w'
                  go_simp
                  with_reducible rfl
                 rotate_left
                 ·
                  simp only [Act.put, List.setIfInBounds_toArray, List.set_cons_zero, List.set_cons_succ, i64_w, i32_w]
                  rfl
                 refine last_ (i := 21) (N := none) #[true, true, true, true, true, true, true, true, true, true, true, true, true, true, true, true, true, true, true, true, true, true] rfl rfl (one_of HT_.out (by kernel_rfl)) (by decide) (fun K hK => ?_)
                 refine skip_ (w1 := ?_) (by rfl) rfl ?_ ?_
                 rotate_left
                 ·
                  go_simp
                  rfl
                 refine hK.out _ _ ?_
                 clear hK K
                 refine done_ (done_of HT_.out (by kernel_rfl)) ?_
                 try go_wp2
                 (try simp only [← hl5_3])
                 go_roundg k3
                 case measure => have := HK1.out; have := HK2.out; have := HK3.out; omega
                 case rel => exact ⟨(y692), (wrap64 (x8_3 + 1)), (by first | rfl | (simp; done) | (simp [*]; done)), H', ⟨by have := HK1.out; have := HK2.out; have := HK3.out; omega⟩, ⟨by (try simp only [hl5_2]); (try simp only [hl5_3]); (with_reducible repeat (first | apply Kd.N_alloc | apply Kd.N_drewN | apply Kd.N_drew)); exact Kd.N_mono HQ35.out (fun _ hk => hk.1)⟩, ⟨by repeat (first | (with_reducible first | exact HB.out | apply below_alloc | apply pw_below_drewN | apply below_drew1 | refine below_set ?_ GB29.out | refine below_set ?_ GB29.out | refine below_set ?_ GB29.out) | exact HB.out)⟩⟩
                ·
                 rw [if_neg c26] at H
                 exact absurd H (by simp)
               ·
                rw [if_neg c25] at H
                exact absurd H (by simp)
              ·
               rw [if_neg c24] at H
               exact absurd H (by simp)
             ·
              rw [if_neg c23] at H
              exact absurd H (by simp)
            ·
             rw [if_neg c22] at H
             exact absurd H (by simp)
           ·
            rw [if_neg c20] at H
            have c20b0 : decide (x8_3 < (l1.length : Int)) = false := decide_eq_false c20
            clear c20
            have H' := zA H
            clear H
            go_wp2
            (try simp only [← hl5_2, ← hl5_3])
            go_roundg k3
            case measure => have := HK1.out; have := HK2.out; have := HK3.out; omega
            case rel => exact ⟨(x5_3), (wrap64 (x7_2 + 1)), (by first | rfl | (simp; done) | (simp [*]; done)), H', ⟨by have := HK1.out; have := HK2.out; have := HK3.out; omega⟩, ⟨by (try simp only [hl5_2]); (try simp only [hl5_3]); exact zN HO_5⟩, ⟨by exact zB HB⟩⟩
        ·
         rw [if_neg c19] at H
         have c19b0 : decide (x7_2 < (l0.length : Int)) = false := decide_eq_false c19
         clear c19
         replace H := Option.bind_eq_some_iff.mp H
         obtain ⟨t672, A380, H⟩ := H
         replace H : (some t672) = some r := H
         have A38 := zA A380
         clear A380
         obtain rfl := Option.some.inj H
         go_wp2_with (first | ((with_reducible refine gate_callee (f := 78) rfl ?_); refine goesL_ (some 59) rfl rfl Try.func78 (by kernel_rfl) rfl #[.slice Ao18 x5_2.length co18] rfl (by (try simp only [List.map_toArray, List.map_cons, List.map_nil]); first | done | rfl | (simp only [List.length_drop, List.length_take]; rfl)) ?_; (with_reducible refine (codewrightref55_Canon.calls k2 _ _ x5_2 t672 _ ?side1 ?side2 A38.out).mono ?_); (case side1 => exact zC ((Kd.N_reads' HO_5.out).2.2)); (case side2 => exact (Kd.N_reads' HO_5.out).2.1); rintro e w39 ⟨v673, rfl, ho0, hb⟩; refine ⟨_, rfl, ?_⟩; have HO674 := zA (Kd.N_lower (Kd.N_mono (ok' := fun k_ => (w.heap.size ≤ k_) ∧ some k_ ≠ (.slice Ao18 x5_2.length co18 : Value).ownBlock) (Kd.S_N (Kd.S_bound ho0)) (fun k_ hk_ => ⟨(Nat.le_trans (below_size (by exact zB HB)) hk_.2.1), (Kd.fresh' (Kd.N_lt (by exact zN HO_5)) k_ hk_.2.1)⟩)) (below_size (by exact zB HB))); replace HO_5 := zA (Kd.N_elder' (by exact zN HO_5) (Kd.N_base (Kd.S_N ho0)) hb); replace HB := zA (below_step (by exact zB HB) hb); (try clear hb ho0)))
         go_ret
         exact ⟨_, by first | rfl | (simp [errW_none, errW_some] <;> rfl) | (simp only [← hji3]; first | rfl | (simp [errW_none, errW_some] <;> rfl)) | (simp [*, errW_none, errW_some] <;> rfl), by (with_reducible repeat (first | apply Kd.N_alloc | apply Kd.N_drewN | apply Kd.N_drew)); exact Kd.N_mono HO674.out (fun _ hk => hk.1), by exact zB HB⟩
  ·
   rw [if_neg c5] at H
   exact absurd H (by simp)
 ·
  rw [if_neg c4] at H
  exact absurd H (by simp)
/-! ### codewrightref55_power: function 62 -/
def codewrightref55_power.l0 : Nat → List (S52) → Int → List (S52) → Int → Option ((List (S52)))
 | 0, _, _, _, _ => none
 | k + 1, x0, x1, x5, x6 => if x6 < x1 then ((codewrightref55_Mul.f k x5 x0).bind fun t703 => (codewrightref55_power.l0 k x0 x1 t703 (wrap64 (x6 + 1)))) else (some x5)
def codewrightref55_power.f (k : Nat) (l0 : List (S52)) (a1 : Int) : Option ((List (S52))) := (codewrightref02_Int.f k 1).bind fun bt693 => (codewrightref55_power.l0 k l0 a1 (([(⟨bt693.1, bt693.2.1, bt693.2.2⟩ : S52)] : List (S52))) 0)
set_option maxHeartbeats 8000000 in
set_option maxRecDepth 100000 in
theorem codewrightref55_power.calls (k : Nat) (A0 : Option Addr) (c0 : Nat) (l0 : List (S52)) (a1 : Int) (r : List (S52)) (w : World) (hr0 : Kd.C k52 w A0 l0.length l0) (hc0 : l0.length ≤ c0) (h : codewrightref55_power.f k l0 a1 = some r) :
  Calls Try.prog 62 #[.slice A0 l0.length c0, .int .i64 a1] w fun e w' => ∃ v0_ : Value, e = .returned (v0_) ∧ Kd.N k52 52 w' w.heap.size (fun k_ => (w.heap.size ≤ k_)) v0_ r ∧ Below w.heap.size w w' := by
 have HR0 := zA hr0
 have HC0 := zA hc0
 clear hr0 hc0
 have HB := zA (Below.refl w.heap.size w)
 have H : ((codewrightref02_Int.f k 1).bind fun bt693 => (codewrightref55_power.l0 k l0 a1 (([(⟨bt693.1, bt693.2.1, bt693.2.2⟩ : S52)] : List (S52))) 0)) = some r := h
 clear h
 replace H := Option.bind_eq_some_iff.mp H
 obtain ⟨⟨t693, t694, t697⟩, A30, H⟩ := H
 replace H : (codewrightref55_power.l0 k l0 a1 (([(⟨t693, t694, t697⟩ : S52)] : List (S52))) 0) = some r := H
 have A3 := zA A30
 clear A30
 obtain ⟨y700, hy700⟩ : ∃ y_ : List (S52), y_ = (([(⟨t693, t694, t697⟩ : S52)] : List (S52))) := ⟨_, rfl⟩
 replace H : (codewrightref55_power.l0 k l0 a1 y700 0) = some r := by first | (rw [hy700]; with_reducible exact H) | (have H := (Option.bind_some _ _).symm.trans H; first | (rw [hy700]; with_reducible exact H) | with_reducible exact H) | (rw [hy700]; exact H) | exact H
 have Ny700 := zA hy700
 clear hy700
 have H' := zA H
 clear H
 go_enter Try.func62, Try.ntmps62
 go_wp2_with (first | ((with_reducible refine gate_callee (f := 42) rfl ?_); refine goesL_ (some 7) rfl rfl Try.func42 (by kernel_rfl) rfl #[.int .i64 1] rfl (by (try simp only [List.map_toArray, List.map_cons, List.map_nil]); first | done | rfl | (simp only [List.length_drop, List.length_take]; rfl)) ?_; (with_reducible refine (codewrightref02_Int.calls k 1 t693 t694 t697 _ A3.out).mono ?_); rintro e w4 ⟨v695, v698, rfl, ho0, ho1, hb⟩; refine ⟨_, rfl, ?_⟩; have HO696 := zA (Kd.R_lower (Kd.R_newM (M := fun k_ => (w.heap.size ≤ k_)) ho0 (below_size (by exact zB HB)) (fun k_ h_ => h_)) (below_size (by exact zB HB))); have HO699 := zA (Kd.R_lower (Kd.R_newM (M := fun k_ => (w.heap.size ≤ k_)) ho1 (below_size (by exact zB HB)) (fun k_ h_ => h_)) (below_size (by exact zB HB))); replace HB := zA (below_step (by exact zB HB) hb); (try clear hb ho0 ho1); obtain ⟨Ao5, co5, eo5⟩ := Kd.R_slice HO696.out; subst eo5; obtain ⟨Ao6, co6, eo6⟩ := Kd.R_slice HO699.out; subst eo6) | ((with_reducible refine gate_dst (N := 8) rfl ?_); refine Kd.N_lit k52 _ 52 ?hg (N' := 8) ?hd (xs := ([(⟨t693, t694, t697⟩ : S52)] : List (S52))) (inner := [.bool t693, .slice Ao5 t694.length co5, .slice Ao6 t697.length co6]) (ok := (fun k_ => (w.heap.size ≤ k_))) (okp := (fun k_ => (w.heap.size ≤ k_))) ?hr ?hp (fun _ hk => hk) ((show ∀ k_, w4.heap.size ≤ k_ → (fun k_ => (w.heap.size ≤ k_)) k_ from fun k_ hk => (Nat.le_trans (below_size (by exact zB HB)) hk)) _ (Nat.le_refl _)) (Below.refl _ _) (Nat.le_refl _) (by simp) ?_; (case hd => rfl); (case hg => rfl); (case hr => first | (go_simp; done) | (go_simp; rfl)); (case hp => exact (Reps.c3 (show Kd.FK k52 _ _ (⟨t693, t694, t697⟩ : S52) [.bool t693, .slice Ao5 t694.length co5, .slice Ao6 t697.length co6] from (k52_mkF _ _ (⟨t693, t694, t697⟩ : S52) (Kd.R_reads' (Kd.R_mono (ok' := (fun k_ => (w.heap.size ≤ k_))) (HO696.out) (fun k_ hk => hk.1))).2.1 (Kd.R_F (Kd.R_mono (ok' := (fun k_ => (w.heap.size ≤ k_))) (HO696.out) (fun k_ hk => hk.1))) (Kd.R_reads' (Kd.R_mono (ok' := (fun k_ => (w.heap.size ≤ k_))) (HO699.out) (fun k_ hk => hk.1))).2.1 (Kd.R_F (Kd.R_mono (ok' := (fun k_ => (w.heap.size ≤ k_))) (HO699.out) (fun k_ hk => hk.1))))) (Reps.none _ _))); intro v701 w7 ho8 hb hg_ hnew_; clear hg_ hnew_; (first | rw [← Ny700.out] at ho8 | (simp only [Int.reduceToNat] at ho8; rw [← Ny700.out] at ho8)); have n0_ := zA (Kd.N_lower ho8 (below_size (by exact zB HB))); have n1_ := zA (below_step (by exact zB HB) hb); clear HB; clear HO696; clear HO699; have HO702 := n0_; have HB := n1_; clear n0_ n1_; clear hb ho8))
 go_loopg [5, 6] k (fun kq v5 v6 w' => ∃ (x5_1 : List (S52)) (x6_1 : Int), v6 = .int .i64 x6_1 ∧ Aside0 (codewrightref55_power.l0 kq l0 a1 x5_1 x6_1 = some r) ∧ Aside0 (kq ≤ k) ∧ Aside0 (Kd.N k52 52 w' w.heap.size (fun k_ => (w.heap.size ≤ k_)) v5 x5_1) ∧ Aside0 (Below w.heap.size w w'))
 case atStart => exact ⟨(y700), (0), (by first | rfl | (simp; done) | (simp [*]; done)), H', ⟨Nat.le_refl _⟩, ⟨by exact zN HO702⟩, ⟨by exact zB HB⟩⟩
 case round =>
  clear H'
  try clear p2
  try clear c3
  try clear c4
  try clear c6
  obtain ⟨x5_1, x6_1, rfl, HA, HK1, HO_5, HB⟩ := hrel
  cases gk with
  | zero => exact absurd HA.out (by simp [codewrightref55_power.l0])
  | succ k1 =>
   have H := HA.out
   clear HA
   simp only [codewrightref55_power.l0] at H
   by_cases c9 : x6_1 < a1
   ·
    rw [if_pos c9] at H
    have c9b0 : decide (x6_1 < a1) = true := decide_eq_true c9
    clear c9
    replace H := Option.bind_eq_some_iff.mp H
    obtain ⟨t703, A100, H⟩ := H
    replace H : (codewrightref55_power.l0 k1 l0 a1 t703 (wrap64 (x6_1 + 1))) = some r := H
    have A10 := zA A100
    clear A100
    have H' := zA H
    clear H
    obtain ⟨Ao11, co11, eo11⟩ := Kd.N_slice HO_5.out
    subst eo11
    go_wp2_with (first | ((with_reducible refine gate_callee (f := 36) rfl ?_); refine goesL_ (some 16) rfl rfl Try.func36 (by kernel_rfl) rfl #[.slice Ao11 x5_1.length co11, .slice A0 l0.length c0] rfl (by (try simp only [List.map_toArray, List.map_cons, List.map_nil]); first | done | rfl | (simp only [List.length_drop, List.length_take]; rfl)) ?_; (with_reducible refine (codewrightref55_Mul.calls k1 _ _ x5_1 _ _ l0 t703 _ ?side1 ?side2 ?side3 ?side4 A10.out).mono ?_); (case side1 => exact zC ((Kd.N_reads' HO_5.out).2.2)); (case side2 => exact (Kd.N_reads' HO_5.out).2.1); (case side3 => exact zC ((Kd.C_below HR0.out HB.out))); (case side4 => exact HC0.out); rintro e w12 ⟨v704, rfl, ho0, hb⟩; refine ⟨_, rfl, ?_⟩; have HO705 := zA (Kd.N_lower (Kd.N_mono (ok' := fun k_ => (w.heap.size ≤ k_) ∧ some k_ ≠ (.slice Ao11 x5_1.length co11 : Value).ownBlock) ho0 (fun k_ hk_ => ⟨(Nat.le_trans (below_size (by exact zB HB)) hk_), (Kd.fresh' (Kd.N_lt (by exact zN HO_5)) k_ hk_)⟩)) (below_size (by exact zB HB))); replace HO_5 := zA (Kd.N_elder' (by exact zN HO_5) (Kd.N_base ho0) hb); replace HB := zA (below_step (by exact zB HB) hb); (try clear hb ho0)))
    go_roundg k1
    case measure => have := HK1.out; omega
    case rel => exact ⟨(t703), (wrap64 (x6_1 + 1)), (by first | rfl | (simp; done) | (simp [*]; done)), H', ⟨by have := HK1.out; omega⟩, ⟨by (with_reducible repeat (first | apply Kd.N_alloc | apply Kd.N_drewN | apply Kd.N_drew)); exact Kd.N_mono HO705.out (fun _ hk => hk.1)⟩, ⟨by exact zB HB⟩⟩
   ·
    rw [if_neg c9] at H
    have c9b0 : decide (x6_1 < a1) = false := decide_eq_false c9
    clear c9
    obtain rfl := Option.some.inj H
    go_wp2
    go_ret
    exact ⟨_, by first | rfl | (simp [errW_none, errW_some] <;> rfl) | (simp [*, errW_none, errW_some] <;> rfl), by exact zN HO_5, by exact zB HB⟩
end Go.Proofs.Ytjignpnnmfdedaa.PChannelPatterns
