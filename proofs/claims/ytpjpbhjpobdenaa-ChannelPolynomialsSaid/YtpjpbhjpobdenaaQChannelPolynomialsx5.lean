/- A part of the print of this row, cut down to what the row uses. -/
import Derived.Test.YtpjpbhjpobdenaaQChannelPolynomialsx0
import Derived.Test.YtpjpbhjpobdenaaQChannelPolynomialsx1
import Derived.Test.YtpjpbhjpobdenaaQChannelPolynomialsx2
import Derived.Test.YtpjpbhjpobdenaaQChannelPolynomialsx3
import Derived.Test.YtpjpbhjpobdenaaQChannelPolynomialsx4
import Derived.Test.YtpjpbhjpobdenaaQChannelPolynomialsWSq
-- printed by a scratch copy of the print, turned (wip/tools/turn_print.py)
namespace Go.Proofs.Ytpjpbhjpobdenaa.PNat
open Go.RowKit Go.Proofs.YtpjpbhjpobdenaaW.PrintWords Go.Proofs.YtpjpbhjpobdenaaW.PrintLast Go.Proofs.YtpjpbhjpobdenaaW.PrintMore
attribute [local go_sem] max2_int min2_int max_two min_two max_three min_three max_four min_four   -- for this text's walks alone
set_option linter.unusedVariables false
set_option linter.unusedSimpArgs false
/-! ### nat_long: function 107 -/
mutual
def nat_long.l0 : Nat → List Int → Int → List Int → List Int → Int → Int → Option (List Int × List Int)
 | 0, _, _, _, _, _, _ => none
 | k + 1, x4, x6, x7, x8, x9, x10 => if x10 ≥ 0 then (if 0 ≤ x10 then (if x10 ≤ (wrap64 ((wrap64 (x10 + x9)) + 1)) then (if (wrap64 ((wrap64 (x10 + x9)) + 1)) ≤ (x8.length : Int) then ((nat_step.f k ((x8.take ((wrap64 ((wrap64 (x10 + x9)) + 1)) : Int).toNat).drop (x10 : Int).toNat) x7).bind fun t249 => (if x10 < (x4.length : Int) then (nat_long.l0 k (x4.set (x10 : Int).toNat t249.1) x6 x7 (x8.take (x10 : Int).toNat ++ t249.2 ++ x8.drop ((wrap64 ((wrap64 (x10 + x9)) + 1)) : Int).toNat) x9 (wrap64 (x10 - 1))) else (none))) else (none)) else (none)) else (none)) else (if 0 ≤ x9 then (if (x9 : Int).toNat ≤ 70368744177664 then ((some (List.replicate (x9 : Int).toNat 0 : List Int)).bind fun y251 => (nat_long.l1 k x4 y251 x6 x8 (y251.length : Int) 0)) else (none)) else (none))
def nat_long.l1 : Nat → List Int → List Int → Int → List Int → Int → Int → Option (List Int × List Int)
 | 0, _, _, _, _, _, _ => none
 | k + 1, x4, x5, x6, x8, x57, x58 => if x58 < x57 then (if 0 ≤ x58 then (if x58 < (x8.length : Int) then (if 0 ≤ (wrap64 (x58 + 1)) then (if (wrap64 (x58 + 1)) < (x8.length : Int) then (if 0 ≤ x6 then (if x58 < (x5.length : Int) then (nat_long.l1 k x4 (x5.set (x58 : Int).toNat ((shr .u64 (Go.bits .or .u64 (IntKind.u64.wrap (rd x8 x58)) (IntKind.u64.wrap ((IntKind.u64.wrap (rd x8 (wrap64 (x58 + 1)))) * 4294967296))) x6) % 4294967296)) x6 x8 x57 (wrap64 (x58 + 1))) else (none)) else (none)) else (none)) else (none)) else (none)) else (none)) else (some (x4, x5))
end
def nat_long.f (k : Nat) (l0 : List Int) (l1 : List Int) : Option (List Int × List Int) := if 0 ≤ (wrap64 ((l1.length : Int) - 1)) then (if (wrap64 ((l1.length : Int) - 1)) < (l1.length : Int) then ((bits_LeadingZeros32.f (rd l1 (wrap64 ((l1.length : Int) - 1)))).bind fun t232 => ((nat_shift.f k l1 t232).bind fun t233 => ((nat_short.f k t233).bind fun t236 => ((nat_shift.f k l0 t232).bind fun t239 => (if 0 ≤ (wrap64 ((t239.length : Int) - (t236.length : Int))) then (if (wrap64 ((t239.length : Int) - (t236.length : Int)) : Int).toNat ≤ 70368744177664 then (nat_long.l0 k (List.replicate (wrap64 ((t239.length : Int) - (t236.length : Int)) : Int).toNat 0) t232 t236 t239 (t236.length : Int) (wrap64 ((wrap64 ((t239.length : Int) - (t236.length : Int))) - 1))) else (none)) else (none)))))) else (none)) else (none)
def nat_long.T14 : Bool × List (List Nat × List Nat) := (true, [([], []), ([], []), ([], []), ([], []), ([2, 3], [2, 3]), ([4], [4]), ([5], [5]), ([], []), ([], []), ([8], [8]), ([7, 9], [7, 9]), ([10], [10]), ([11], [11]), ([12], [12]), ([6, 13], [6, 13]), ([], []), ([14, 15], [14, 15]), ([16], [16]), ([0, 1, 0, 1, 2, 3, 4, 5, 6, 7, 8, 9, 10, 11, 12, 13, 14, 15, 16, 17], [0, 1]), ([18, 17, 0, 1, 2, 3, 4, 5, 6, 7, 8, 9, 10, 11, 12, 13, 14, 15, 16, 17], [17, 18])])
def nat_long.B14 : List Nat := [0, 0, 0, 0, 12, 28, 60, 0, 0, 256, 896, 1920, 3968, 8064, 16380, 0, 65532, 131068, 262143, 524287]
theorem nat_long.tab14 : rtab .any (opsOf Try.f107 14) = nat_long.T14 := by kernel_rfl
theorem nat_long.bits14 : waitsOk nat_long.T14.2 nat_long.B14 = true := by kernel_rfl
set_option maxHeartbeats 8000000 in
set_option maxRecDepth 100000 in
theorem nat_long.calls (k : Nat) (A0 : Option Addr) (c0 : Nat) (l0 : List Int) (A1 : Option Addr) (c1 : Nat) (l1 : List Int) (r1 : List Int) (r2 : List Int) (w : World) (hr0 : Kd.C (Kd.int .u32) w A0 l0.length l0) (hc0 : l0.length ≤ c0) (hr1 : Kd.C (Kd.int .u32) w A1 l1.length l1) (hc1 : l1.length ≤ c1) (h : nat_long.f k l0 l1 = some (r1, r2)) :
  Calls Try.prog 107 #[.slice A0 l0.length c0, .slice A1 l1.length c1] w fun e w' => ∃ v0_ v1_ : Value, e = .returned (.tuple #[v0_, v1_]) ∧ Kd.R (Kd.int .u32) 85 w' w.heap.size (fun k_ => some k_ ≠ (v1_ : Value).ownBlock) v0_ r1 ∧ Kd.R (Kd.int .u32) 85 w' w.heap.size (fun k_ => some k_ ≠ (v0_ : Value).ownBlock) v1_ r2 ∧ Below w.heap.size w w' := by
 have HR0 := zA hr0
 have HC0 := zA hc0
 clear hr0 hc0
 have HR1 := zA hr1
 have HC1 := zA hc1
 clear hr1 hc1
 have HB := zA (Below.refl w.heap.size w)
 have H : (if 0 ≤ (wrap64 ((l1.length : Int) - 1)) then (if (wrap64 ((l1.length : Int) - 1)) < (l1.length : Int) then ((bits_LeadingZeros32.f (rd l1 (wrap64 ((l1.length : Int) - 1)))).bind fun t232 => ((nat_shift.f k l1 t232).bind fun t233 => ((nat_short.f k t233).bind fun t236 => ((nat_shift.f k l0 t232).bind fun t239 => (if 0 ≤ (wrap64 ((t239.length : Int) - (t236.length : Int))) then (if (wrap64 ((t239.length : Int) - (t236.length : Int)) : Int).toNat ≤ 70368744177664 then (nat_long.l0 k (List.replicate (wrap64 ((t239.length : Int) - (t236.length : Int)) : Int).toNat 0) t232 t236 t239 (t236.length : Int) (wrap64 ((wrap64 ((t239.length : Int) - (t236.length : Int))) - 1))) else (none)) else (none)))))) else (none)) else (none)) = some (r1, r2) := h
 clear h
 obtain ⟨ji3, hji3⟩ : ∃ j_ : Int, (wrap64 ((l1.length : Int) - 1)) = j_ := ⟨_, rfl⟩
 replace H : (if 0 ≤ (ji3) then (if (ji3) < (l1.length : Int) then ((bits_LeadingZeros32.f (rd l1 (ji3))).bind fun t232 => ((nat_shift.f k l1 t232).bind fun t233 => ((nat_short.f k t233).bind fun t236 => ((nat_shift.f k l0 t232).bind fun t239 => (if 0 ≤ (wrap64 ((t239.length : Int) - (t236.length : Int))) then (if (wrap64 ((t239.length : Int) - (t236.length : Int)) : Int).toNat ≤ 70368744177664 then (nat_long.l0 k (List.replicate (wrap64 ((t239.length : Int) - (t236.length : Int)) : Int).toNat 0) t232 t236 t239 (t236.length : Int) (wrap64 ((wrap64 ((t239.length : Int) - (t236.length : Int))) - 1))) else (none)) else (none)))))) else (none)) else (none)) = some (r1, r2) := by first | (rw [hji3] at H; exact H) | (simp only [hji3] at H ⊢; exact H)
 have hji3w : (IntKind.i64.wrap ((l1.length : Int) - 1)) = ji3 := (i64_w _).trans hji3
 by_cases c4 : 0 ≤ (ji3)
 ·
  rw [if_pos c4] at H
  have c4b0 : decide (0 ≤ (ji3)) = true := decide_eq_true c4
  clear c4
  by_cases c5 : (ji3) < (l1.length : Int)
  ·
   rw [if_pos c5] at H
   have c5b0 : decide ((ji3) < (l1.length : Int)) = true := decide_eq_true c5
   clear c5
   replace H := Option.bind_eq_some_iff.mp H
   obtain ⟨t232, A60, H⟩ := H
   replace H : ((nat_shift.f k l1 t232).bind fun t233 => ((nat_short.f k t233).bind fun t236 => ((nat_shift.f k l0 t232).bind fun t239 => (if 0 ≤ (wrap64 ((t239.length : Int) - (t236.length : Int))) then (if (wrap64 ((t239.length : Int) - (t236.length : Int)) : Int).toNat ≤ 70368744177664 then (nat_long.l0 k (List.replicate (wrap64 ((t239.length : Int) - (t236.length : Int)) : Int).toNat 0) t232 t236 t239 (t236.length : Int) (wrap64 ((wrap64 ((t239.length : Int) - (t236.length : Int))) - 1))) else (none)) else (none))))) = some (r1, r2) := H
   have A6 := zA A60
   clear A60
   replace H := Option.bind_eq_some_iff.mp H
   obtain ⟨t233, A70, H⟩ := H
   replace H : ((nat_short.f k t233).bind fun t236 => ((nat_shift.f k l0 t232).bind fun t239 => (if 0 ≤ (wrap64 ((t239.length : Int) - (t236.length : Int))) then (if (wrap64 ((t239.length : Int) - (t236.length : Int)) : Int).toNat ≤ 70368744177664 then (nat_long.l0 k (List.replicate (wrap64 ((t239.length : Int) - (t236.length : Int)) : Int).toNat 0) t232 t236 t239 (t236.length : Int) (wrap64 ((wrap64 ((t239.length : Int) - (t236.length : Int))) - 1))) else (none)) else (none)))) = some (r1, r2) := H
   have A7 := zA A70
   clear A70
   replace H := Option.bind_eq_some_iff.mp H
   obtain ⟨t236, A80, H⟩ := H
   replace H : ((nat_shift.f k l0 t232).bind fun t239 => (if 0 ≤ (wrap64 ((t239.length : Int) - (t236.length : Int))) then (if (wrap64 ((t239.length : Int) - (t236.length : Int)) : Int).toNat ≤ 70368744177664 then (nat_long.l0 k (List.replicate (wrap64 ((t239.length : Int) - (t236.length : Int)) : Int).toNat 0) t232 t236 t239 (t236.length : Int) (wrap64 ((wrap64 ((t239.length : Int) - (t236.length : Int))) - 1))) else (none)) else (none))) = some (r1, r2) := H
   have A8 := zA A80
   clear A80
   replace H := Option.bind_eq_some_iff.mp H
   obtain ⟨t239, A90, H⟩ := H
   replace H : (if 0 ≤ (wrap64 ((t239.length : Int) - (t236.length : Int))) then (if (wrap64 ((t239.length : Int) - (t236.length : Int)) : Int).toNat ≤ 70368744177664 then (nat_long.l0 k (List.replicate (wrap64 ((t239.length : Int) - (t236.length : Int)) : Int).toNat 0) t232 t236 t239 (t236.length : Int) (wrap64 ((wrap64 ((t239.length : Int) - (t236.length : Int))) - 1))) else (none)) else (none)) = some (r1, r2) := H
   have A9 := zA A90
   clear A90
   obtain ⟨ji10, hji10⟩ : ∃ j_ : Int, (wrap64 ((t239.length : Int) - (t236.length : Int))) = j_ := ⟨_, rfl⟩
   replace H : (if 0 ≤ (ji10) then (if (ji10 : Int).toNat ≤ 70368744177664 then (nat_long.l0 k (List.replicate (ji10 : Int).toNat 0) t232 t236 t239 (t236.length : Int) (wrap64 ((ji10) - 1))) else (none)) else (none)) = some (r1, r2) := by first | (rw [hji10] at H; exact H) | (simp only [hji10] at H ⊢; exact H)
   (try rw [hji10] at A6)
   (try rw [hji10] at A7)
   (try rw [hji10] at A8)
   (try rw [hji10] at A9)
   have hji10w : (IntKind.i64.wrap ((t239.length : Int) - (t236.length : Int))) = ji10 := (i64_w _).trans hji10
   by_cases c11 : 0 ≤ (ji10)
   ·
    rw [if_pos c11] at H
    have c11b0 := eq_true c11
    have c11b1 : decide (0 ≤ (ji10)) = true := decide_eq_true c11
    clear c11
    by_cases c12 : (ji10 : Int).toNat ≤ 70368744177664
    ·
     rw [if_pos c12] at H
     have c12b0 := eq_true c12
     have c12b1 : decide ((ji10 : Int).toNat ≤ 70368744177664) = true := decide_eq_true c12
     clear c12
     obtain ⟨y242, hy242⟩ : ∃ y_ : List Int, y_ = (List.replicate (ji10 : Int).toNat 0) := ⟨_, rfl⟩
     replace H : (nat_long.l0 k y242 t232 t236 t239 (t236.length : Int) (wrap64 ((ji10) - 1))) = some (r1, r2) := by first | (rw [hy242]; with_reducible exact H) | (have H := (Option.bind_some _ _).symm.trans H; first | (rw [hy242]; with_reducible exact H) | with_reducible exact H) | (rw [hy242]; exact H) | exact H
     have Ny242 := zA hy242
     clear hy242
     have H' := zA H
     clear H
     have p231 : 0 ≤ ((ji3) : Int) := of_decide_eq_true (by assumption)
     have q231 : (ji3) < (l1.length : Int) := of_decide_eq_true (by assumption)
     obtain ⟨ad231, e231, hx231_0⟩ := Kd.at_int HR1.out (ji3) p231 q231
     cases e231
     replace p231 := eq_true p231
     replace q231 := eq_true q231
     go_enter Try.func107, Try.ntmps107
     go_wp2_with (first | ((with_reducible refine gate_callee (f := 108) rfl ?_); refine goesL_ (some 18) rfl rfl Try.func108 (by kernel_rfl) rfl #[.int .u32 (rd l1 (ji3))] rfl (by (try simp only [List.map_toArray, List.map_cons, List.map_nil]); first | done | (simp only [hji3]; rfl) | rfl | (simp only [List.length_drop, List.length_take]; rfl)) ?_; (with_reducible refine (bits_LeadingZeros32.calls (rd l1 (ji3)) t232 _ A6.out).mono ?_); rintro e w' ⟨rfl, ⟨nd, rfl⟩⟩; refine ⟨_, rfl, ?_⟩) | ((with_reducible refine gate_callee (f := 109) rfl ?_); refine goesL_ (some 21) rfl rfl Try.func109 (by kernel_rfl) rfl #[.slice (some ad231) l1.length c1, .int .i64 t232] rfl (by (try simp only [List.map_toArray, List.map_cons, List.map_nil]); first | done | rfl | (simp only [List.length_drop, List.length_take]; rfl)) ?_; (with_reducible refine (nat_shift.calls k _ _ l1 t232 t233 _ ?side1 ?side2 A7.out).mono ?_); (case side1 => exact zC (HR1.out)); (case side2 => exact HC1.out); rintro e w13 ⟨v234, rfl, ho0, hb⟩; refine ⟨_, rfl, ?_⟩; have HO235 := zA (Kd.R_lower ho0 (below_size (by exact zB HB))); replace HB := zA (below_step (by exact zB HB) hb); (try clear hb ho0); obtain ⟨Ao14, co14, eo14⟩ := Kd.R_slice HO235.out; subst eo14) | ((with_reducible refine gate_callee (f := 100) rfl ?_); refine goesL_ (some 22) rfl rfl Try.func100 (by kernel_rfl) rfl #[.slice Ao14 t233.length co14] rfl (by (try simp only [List.map_toArray, List.map_cons, List.map_nil]); first | done | rfl | (simp only [List.length_drop, List.length_take]; rfl)) ?_; (with_reducible refine (nat_short.calls k (fun k_ => some k_ = (.slice Ao14 t233.length co14 : Value).ownBlock) _ _ t233 t236 _ ?side1 A8.out).mono ?_); (case side1 => exact Kd.R_V (Kd.R_tight rfl (HO235.out))); rintro e w15 ⟨v237, rfl, ho0, hb⟩; refine ⟨_, rfl, ?_⟩; replace HO235 := zA (Kd.R_below (by exact zR HO235) hb); have HO238 := zA (Kd.V_lower (Kd.V_mono (ok' := fun k_ => True) ho0 (fun k_ hk_ => trivial)) (below_size (by exact zB HB))); replace HB := zA (below_step (by exact zB HB) hb); (try clear hb ho0)) | ((with_reducible refine gate_callee (f := 109) rfl ?_); refine goesL_ (some 25) rfl rfl Try.func109 (by kernel_rfl) rfl #[.slice A0 l0.length c0, .int .i64 t232] rfl (by (try simp only [List.map_toArray, List.map_cons, List.map_nil]); first | done | rfl | (simp only [List.length_drop, List.length_take]; rfl)) ?_; (with_reducible refine (nat_shift.calls k _ _ l0 t232 t239 _ ?side1 ?side2 A9.out).mono ?_); (case side1 => exact zC ((Kd.C_below HR0.out HB.out))); (case side2 => exact HC0.out); rintro e w16 ⟨v240, rfl, ho0, hb⟩; refine ⟨_, rfl, ?_⟩; replace HO238 := zA (Kd.V_elder' (by exact zV HO238) (Kd.R_base ho0) hb); have HO241 := zA (Kd.R_lower (Kd.R_new' ho0 (Kd.R_lt (by exact zR HO235))) (below_size (by exact zB HB))); replace HO235 := zA (Kd.R_elder' (by exact zR HO235) (Kd.R_base ho0) hb); replace HB := zA (below_step (by exact zB HB) hb); (try clear hb ho0); obtain ⟨Ao17, co17, eo17⟩ := Kd.V_slice HO238.out; subst eo17; obtain ⟨Ao18, co18, eo18⟩ := Kd.R_slice HO241.out; subst eo18) | ((with_reducible refine gate_dst (N := 32) rfl ?_); refine Kd.R_make (Kd.int .u32) _ 85 rfl (N := 32) rfl 38 _ _ rfl ji10 rfl rfl Try.underlying38 (.int .u32 0) 4 info85 rfl (by decide) (by omega) 0 (ok := fun _ => True) (okp := fun _ => True) rfl (fun _ hk => hk) trivial (of_decide_eq_true (by assumption)) (Nat.le_trans (Nat.mul_le_mul_right _ (of_decide_eq_true (by assumption) : ji10.toNat ≤ 70368744177664)) (by omega)) (Below.refl _ _) (Nat.le_refl _) ?_; intro v243 w19 ho20 hb hg_ hnew_; clear hg_ hnew_; (first | rw [← Ny242.out] at ho20 | (simp only [Int.reduceToNat] at ho20; rw [← Ny242.out] at ho20)); replace HO238 := zA (Kd.V_elder' (by exact zV HO238) (Kd.R_base ho20) hb); have HO244 := zA (Kd.R_lower (Kd.R_new' (Kd.R_new' ho20 (Kd.R_lt (by exact zR HO235))) (Kd.R_lt (by exact zR HO241))) (below_size (by exact zB HB))); replace HO235 := zA (Kd.R_elder' (by exact zR HO235) (Kd.R_base ho20) hb); replace HO241 := zA (Kd.R_elder' (by exact zR HO241) (Kd.R_base ho20) hb); replace HB := zA (below_step (by exact zB HB) hb); clear hb ho20))
     go_loopg [10] k (fun kq v10 w' => ∃ (x4_1 : List Int) (x7_1 : List Int) (x8_1 : List Int) (x10_1 : Int), v10 = .int .i64 x10_1 ∧ Aside0 (nat_long.l0 kq x4_1 t232 x7_1 x8_1 (t236.length : Int) x10_1 = some (r1, r2)) ∧ Aside0 (kq ≤ k) ∧ Aside0 (Kd.R (Kd.int .u32) 85 w' w.heap.size (fun k_ => some k_ ≠ ((.slice Ao18 t239.length co18) : Value).ownBlock) v243 x4_1) ∧ Aside0 (Kd.V (Kd.int .u32) 85 w' w.heap.size (fun k_ => some k_ ≠ (v243 : Value).ownBlock ∧ some k_ ≠ ((.slice Ao18 t239.length co18) : Value).ownBlock) (.slice Ao17 t236.length co17) x7_1) ∧ Aside0 (Kd.R (Kd.int .u32) 85 w' w.heap.size (fun k_ => some k_ ≠ (v243 : Value).ownBlock) (.slice Ao18 t239.length co18) x8_1) ∧ Aside0 (Below w.heap.size w w'))
     case atStart => exact ⟨(y242), (t236), (t239), (wrap64 ((ji10) - 1)), (by first | rfl | (simp; done) | (simp only [← hji10] <;> (first | rfl | simp)) | (simp [*]; done)), H', ⟨Nat.le_refl _⟩, ⟨by (with_reducible repeat (first | apply Kd.R_alloc | apply Kd.R_drewN | apply Kd.R_drew)); exact Kd.R_mono HO244.out (fun _ hk => hk.2)⟩, ⟨by (with_reducible repeat (first | apply Kd.V_alloc | apply Kd.V_drewN | apply Kd.V_drew)); exact Kd.V_mono HO238.out (fun _ hk => ⟨hk.2, hk.1.2⟩)⟩, ⟨by (with_reducible repeat (first | apply Kd.R_alloc | apply Kd.R_drewN | apply Kd.R_drew)); exact Kd.R_mono HO241.out (fun _ hk => hk.2)⟩, ⟨by exact zB HB⟩⟩
     case round =>
      clear H'
      try clear c1
      try clear p2
      try clear q2
      try clear hx2
      try clear c4
      try clear c4b0
      try clear c5
      try clear c5b0
      try clear p6
      try clear c10
      try clear c11
      try clear c11b0
      try clear c11b1
      try clear c12
      try clear c12b0
      try clear c12b1
      try clear hx231_0
      try clear p231
      try clear q231
      obtain ⟨x4_1, x7_1, x8_1, x10_1, rfl, HA, HK1, HO_4, HO_7, HO_8, HB⟩ := hrel
      have hl7_1 := (Kd.V_reads' HO_7.out).1
      rw [hl7_1] at HO_7
      (try simp only [hl7_1])
      (try simp only [hl7_1] at HO_4)
      (try simp only [hl7_1] at HO_8)
      have hl8_1 := (Kd.R_reads' HO_8.out).1
      rw [hl8_1] at HO_8
      (try simp only [hl8_1])
      (try simp only [hl8_1] at HO_4)
      (try simp only [hl8_1] at HO_7)
      cases gk with
      | zero => exact absurd HA.out (by simp [nat_long.l0])
      | succ k1 =>
       have H := HA.out
       clear HA
       simp only [nat_long.l0] at H
       by_cases c21 : x10_1 ≥ 0
       ·
        rw [if_pos c21] at H
        have c21b0 : decide (0 ≤ x10_1) = true := decide_eq_true c21
        clear c21
        by_cases c22 : 0 ≤ x10_1
        ·
         rw [if_pos c22] at H
         have c22b0 := eq_true c22
         have c22b1 : decide (0 ≤ x10_1) = true := decide_eq_true c22
         clear c22
         by_cases c23 : x10_1 ≤ (wrap64 ((wrap64 (x10_1 + (t236.length : Int))) + 1))
         ·
          rw [if_pos c23] at H
          have c23b0 := eq_true c23
          have c23b1 : decide (x10_1 ≤ (wrap64 ((wrap64 (x10_1 + (t236.length : Int))) + 1))) = true := decide_eq_true c23
          by_cases c24 : (wrap64 ((wrap64 (x10_1 + (t236.length : Int))) + 1)) ≤ (x8_1.length : Int)
          ·
           rw [if_pos c24] at H
           have c24b0 := eq_true c24
           have c24b1 : decide ((wrap64 ((wrap64 (x10_1 + (t236.length : Int))) + 1)) ≤ (x8_1.length : Int)) = true := decide_eq_true c24
           obtain ⟨y245, hy245⟩ : ∃ y_ : List Int, y_ = ((x8_1.take ((wrap64 ((wrap64 (x10_1 + (t236.length : Int))) + 1)) : Int).toNat).drop (x10_1 : Int).toNat) := ⟨_, rfl⟩
           replace H : ((nat_step.f k1 y245 x7_1).bind fun t249 => (if x10_1 < (x4_1.length : Int) then (nat_long.l0 k1 (x4_1.set (x10_1 : Int).toNat t249.1) t232 x7_1 (x8_1.take (x10_1 : Int).toNat ++ t249.2 ++ x8_1.drop ((wrap64 ((wrap64 (x10_1 + (t236.length : Int))) + 1)) : Int).toNat) (t236.length : Int) (wrap64 (x10_1 - 1))) else (none))) = some (r1, r2) := by first | (rw [hy245]; with_reducible exact H) | (have H := (Option.bind_some _ _).symm.trans H; first | (rw [hy245]; with_reducible exact H) | with_reducible exact H) | (rw [hy245]; exact H) | exact H
           have Ny245 := zA hy245
           clear hy245
           replace H := Option.bind_eq_some_iff.mp H
           obtain ⟨⟨t249, s249⟩, A250, H⟩ := H
           replace H : (if x10_1 < (x4_1.length : Int) then (nat_long.l0 k1 (x4_1.set (x10_1 : Int).toNat t249) t232 x7_1 (x8_1.take (x10_1 : Int).toNat ++ s249 ++ x8_1.drop ((wrap64 ((wrap64 (x10_1 + (t236.length : Int))) + 1)) : Int).toNat) (t236.length : Int) (wrap64 (x10_1 - 1))) else (none)) = some (r1, r2) := H
           have A25 := zA A250
           clear A250
           by_cases c26 : x10_1 < (x4_1.length : Int)
           ·
            rw [if_pos c26] at H
            have c26b0 : decide (x10_1 < (x4_1.length : Int)) = true := decide_eq_true c26
            clear c26
            obtain ⟨y250, hy250⟩ : ∃ y_ : List Int, y_ = (x4_1.set (x10_1 : Int).toNat t249) := ⟨_, rfl⟩
            replace H : (nat_long.l0 k1 y250 t232 x7_1 (x8_1.take (x10_1 : Int).toNat ++ s249 ++ x8_1.drop ((wrap64 ((wrap64 (x10_1 + (t236.length : Int))) + 1)) : Int).toNat) (t236.length : Int) (wrap64 (x10_1 - 1))) = some (r1, r2) := by first | (rw [hy250]; with_reducible exact H) | (have H := (Option.bind_some _ _).symm.trans H; first | (rw [hy250]; with_reducible exact H) | with_reducible exact H) | (rw [hy250]; exact H) | exact H
            have Ny250 := zA hy250
            clear hy250
            have H' := zA H
            clear H
            have q28 : ((wrap64 ((wrap64 (x10_1 + (t236.length : Int))) + 1)) : Int) ≤ ((x8_1.length : Int) : Int) := of_decide_eq_true (by assumption)
            obtain ⟨i028, hi028, _, hsz28, _⟩ := info_parts info85
            have hroom28 : x8_1.length ≤ co18 := (Kd.R_reads' HO_8.out).2.1
            have hC28 : Kd.C (Kd.int .u32) _ Ao18 x8_1.length x8_1 := (Kd.R_reads' HO_8.out).2.2
            have ql28 : (x10_1 : Int) ≤ ((wrap64 ((wrap64 (x10_1 + (t236.length : Int))) + 1)) : Int) := of_decide_eq_true (by assumption)
            have q028 : (0 : Int) ≤ (x10_1 : Int) := of_decide_eq_true (by assumption)
            have hcut28 := cut_mid (P := Try.prog) 38 85 .i64 .i64 Try.underlying38 hi028 1 hsz28 Ao18 x8_1.length co18 x10_1 (wrap64 ((wrap64 (x10_1 + (t236.length : Int))) + 1)) q028 ql28 q28 hroom28
            have hr28 := Kd.C_mid (lo := (x10_1 : Int).toNat) (hi := ((wrap64 ((wrap64 (x10_1 + (t236.length : Int))) + 1)) : Int).toNat) (c := co18) hC28 (by omega) (by omega) hroom28
            obtain ⟨A28, hA28⟩ : ∃ A1, A1 = (if co18 = (x10_1 : Int).toNat then Ao18 else (Ao18 : Option Addr).map (·.add ((x10_1 : Int).toNat * 1))) := ⟨_, rfl⟩
            obtain ⟨c28, hc28⟩ : ∃ c1, c1 = co18 - (x10_1 : Int).toNat := ⟨_, rfl⟩
            have hy28 : y245.length = ((wrap64 ((wrap64 (x10_1 + (t236.length : Int))) + 1)) : Int).toNat - (x10_1 : Int).toNat := (by rw [Ny245.out, List.length_drop, List.length_take] <;> omega)
            rw [show ((x8_1).take ((wrap64 ((wrap64 (x10_1 + (t236.length : Int))) + 1)) : Int).toNat).drop (x10_1 : Int).toNat = y245 from Ny245.out.symm] at hr28
            replace hr28 : Kd.C (Kd.int .u32) _ A28 y245.length y245 := (by rw [hA28]; exact hr28)
            rw [← hy28, ← hA28, ← hc28] at hcut28
            have HR248 := zA hr28
            have HC248 := zA (show y245.length ≤ c28 from by rw [hy28, hc28]; exact Nat.sub_le_sub_right (Nat.le_trans (by omega) hroom28) _)
            have KC28 := zA hc28
            clear hr28 hC28 hroom28 hi028 hsz28 hc28
            have KY28 := zA hy28
            have KA28 := zA hA28
            clear hy28 hA28
            have KL28 := zA (show ((wrap64 ((wrap64 (x10_1 + (t236.length : Int))) + 1)) : Int).toNat ≤ x8_1.length from by omega)
            have KM28 := zA (show (x10_1 : Int).toNat ≤ ((wrap64 ((wrap64 (x10_1 + (t236.length : Int))) + 1)) : Int).toNat from by omega)
            replace q28 := eq_true q28
            have KP28 := zA (show (x10_1 : Int).toNat < ((wrap64 ((wrap64 (x10_1 + (t236.length : Int))) + 1)) : Int).toNat from by have a1_ := nat_step.pos A25.out; have a2_ := KY28.out; omega)
            (try simp only [hl7_1] at hcut28)
            (try simp only [hl8_1] at hcut28)
            go_wp2_with (first | ((with_reducible refine gate_callee (f := 110) rfl ?_); refine goesL_ (some 52) rfl rfl Try.func110 (by kernel_rfl) rfl #[.slice A28 y245.length c28, .slice Ao17 x7_1.length co17] rfl (by (try simp only [List.map_toArray, List.map_cons, List.map_nil]); first | done | rfl | (simp only [List.length_drop, List.length_take]; rfl)) ?_; (with_reducible refine (nat_step.callsW k1 Ao18 A28 Ao17 x8_1.length co18 c28 co17 x7_1.length (x10_1 : Int).toNat (((wrap64 ((wrap64 (x10_1 + (t236.length : Int))) + 1)) : Int).toNat) x8_1 y245 x7_1 t249 s249 (fun k_ => True) (fun k_ => some k_ ≠ (.slice Ao18 x8_1.length co18 : Value).ownBlock) w _ ?side1 ?side2 ?side3 ?side4 ?side5 ?side6 ?side7 ?side8 ?side9 A25.out).mono ?_); (case side1 => exact (by exact zB HB)); (case side2 => exact (by (with_reducible repeat (first | apply Kd.R_alloc | apply Kd.R_drewN | apply Kd.R_drew)); exact Kd.R_mono HO_8.out (fun _ _ => trivial))); (case side3 => exact (by (with_reducible repeat (first | apply Kd.V_alloc | apply Kd.V_drewN | apply Kd.V_drew)); exact Kd.V_mono HO_7.out (fun _ hk => hk.2))); (case side4 => exact (fun k_ h_ => h_)); (case side5 => exact KP28.out); (case side6 => exact KL28.out); (case side7 => exact Ny245.out); (case side8 => exact KA28.out); (case side9 => exact KC28.out); rintro e w29 ⟨rfl, hR_, hb, hk_⟩; refine ⟨_, rfl, ?_⟩; have hne_ := HO_8.out.1; have n0_ := zA (Kd.R_kept (by exact zR HO_4) hk_ (by intro k_ h1_ h2_; exact h1_ h2_)); have n1_ := zA (Kd.V_kept (by exact zV HO_7) hk_ (by intro k_ h1_ h2_; exact h1_.2 h2_)); have n2_ := zA (Kd.R_mono (Kd.R_tight rfl hR_) (fun k_ e_ => hne_ k_ e_.symm)); have n4_ := zA hb; clear hne_; clear HO_4; clear HO_7; clear HO_8; clear HR248; clear HB; have HO_4 := n0_; have HO_7 := n1_; have HO_8 := n2_; have HB := n4_; clear n0_ n1_ n2_ n4_ hR_ hk_ hb; have p27 : 0 ≤ (x10_1 : Int) := of_decide_eq_true (by assumption); have q27 : (x10_1 : Int) < ((x4_1.length : Int) : Int) := of_decide_eq_true (by assumption); obtain ⟨go27, co27, eo27, gb27, gl27, cl27, HG27⟩ := Kd.R_form HO_4.out (by omega); (first | cases eo27 | (injection eo27 with ea_ en_ ec_; (first | subst ea_ | (injection ea_ with ea_; subst ea_)); subst ec_; clear en_)); have GB27 := zA gb27; have GG27 := zA HG27; clear gb27 gl27 HG27; obtain ⟨hx27_0, hf27_0⟩ := Kd.R_celln 0 HO_4.out (x10_1 : Int) p27 q27; replace p27 := eq_true p27; replace q27 := eq_true q27; obtain ⟨hy30_, hz30_⟩ := Kd.R_celln 0 HO_4.out (x10_1 : Int) (of_decide_eq_true (by assumption)) (of_decide_eq_true (by assumption)); have HP30 := Kd.R_putg HO_4.out (x10_1 : Int) t249) | ((with_reducible refine gate_store (t := 85) (p := 53) rfl ?_); refine store_event (t := 85) (p := 53) (v := ?vo_w31) (w1 := (w29.setCell ⟨go27, (x10_1 : Int).toNat, none⟩ (.int .u32 t249))) ?hg ?ho ?hn ?hr ?_; (case ho => rfl); (case hg => rfl); (case hn => rfl); (case hr => first | (go_simp; done) | (go_simp; rfl)); intro w31 hw; have hg : w29.grownBy w31 (some go27) := (by rw [hw]; exact HP30.2); have hp_ : Kd.R (Kd.int .u32) 85 w31 w.heap.size (fun k_ => some k_ ≠ (.slice Ao18 x8_1.length co18 : Value).ownBlock) (.slice (some ⟨go27, 0, none⟩) x4_1.length co27) y250 := (by rw [hw, Ny250.out]; exact HP30.1); clear HP30; replace HO_4 := zA (hp_); replace HO_7 := zA (Kd.V_afterv (v := (.slice (some ⟨go27, 0, none⟩) x4_1.length co27)) (v1 := (.slice (some ⟨go27, 0, none⟩) x4_1.length co27)) (ok := (fun k_ => some k_ ≠ (.slice Ao18 x8_1.length co18 : Value).ownBlock)) (by (with_reducible repeat (first | apply Kd.V_alloc | apply Kd.V_drewN | apply Kd.V_drew)); exact Kd.V_mono HO_7.out (fun _ hk => ⟨hk.2, hk.1⟩)) hg (.inl rfl)); replace HO_8 := zA (Kd.R_after (v := (.slice (some ⟨go27, 0, none⟩) x4_1.length co27)) (v1 := (.slice (some ⟨go27, 0, none⟩) x4_1.length co27)) (ok := (fun _ => True)) (by (with_reducible repeat (first | apply Kd.R_alloc | apply Kd.R_drewN | apply Kd.R_drew)); exact Kd.R_mono HO_8.out (fun _ hk => ⟨trivial, hk⟩)) hg (.inl rfl)); replace HB := zA ((by rw [hw]; exact below_set (HB.out) GB27.out : Below w.heap.size w w31)); clear hg hw hp_))
            (try simp only [← hl7_1, ← hl8_1])
            go_roundg k1
            case measure => have := HK1.out; omega
            case rel => exact ⟨(y250), (x7_1), ((x8_1.take (x10_1 : Int).toNat ++ s249 ++ x8_1.drop ((wrap64 ((wrap64 (x10_1 + (t236.length : Int))) + 1)) : Int).toNat)), (wrap64 (x10_1 - 1)), (by first | rfl | (simp; done) | (simp [*]; done)), H', ⟨by have := HK1.out; omega⟩, ⟨by (try simp only [hl7_1]); (try simp only [hl8_1]); exact zR HO_4⟩, ⟨by (try simp only [hl7_1]); (try simp only [hl8_1]); (with_reducible repeat (first | apply Kd.V_alloc | apply Kd.V_drewN | apply Kd.V_drew)); exact Kd.V_mono HO_7.out (fun _ hk => ⟨hk.2, hk.1⟩)⟩, ⟨by (try simp only [hl7_1]); (try simp only [hl8_1]); (with_reducible repeat (first | apply Kd.R_alloc | apply Kd.R_drewN | apply Kd.R_drew)); (have q_ := HO_8.out; (try simp only [hl7_1] at q_); (try simp only [hl8_1] at q_); exact Kd.R_mono q_ (fun _ hk => hk.2))⟩, ⟨by exact zB HB⟩⟩
           ·
            rw [if_neg c26] at H
            exact absurd H (by simp)
          ·
           rw [if_neg c24] at H
           exact absurd H (by simp)
         ·
          rw [if_neg c23] at H
          exact absurd H (by simp)
        ·
         rw [if_neg c22] at H
         exact absurd H (by simp)
       ·
        rw [if_neg c21] at H
        have c21b0 : decide (0 ≤ x10_1) = false := decide_eq_false c21
        clear c21
        by_cases c32 : 0 ≤ (t236.length : Int)
        ·
         rw [if_pos c32] at H
         have c32b0 := eq_true c32
         have c32b1 : decide (0 ≤ (t236.length : Int)) = true := decide_eq_true c32
         clear c32
         by_cases c33 : ((t236.length : Int) : Int).toNat ≤ 70368744177664
         ·
          rw [if_pos c33] at H
          have c33b0 := eq_true c33
          have c33b1 : decide (((t236.length : Int) : Int).toNat ≤ 70368744177664) = true := decide_eq_true c33
          clear c33
          obtain ⟨y251, hy251⟩ : ∃ y_ : List Int, y_ = (List.replicate ((t236.length : Int) : Int).toNat 0) := ⟨_, rfl⟩
          replace H : (nat_long.l1 k1 x4_1 y251 t232 x8_1 (y251.length : Int) 0) = some (r1, r2) := by first | (rw [hy251]; with_reducible exact H) | (have H := (Option.bind_some _ _).symm.trans H; first | (rw [hy251]; with_reducible exact H) | with_reducible exact H) | (rw [hy251]; exact H) | exact H
          have Ny251 := zA hy251
          clear hy251
          have H' := zA H
          clear H
          (try simp only [← hl7_1])
          clear hl7_1
          go_wp2_with (first | ((with_reducible refine gate_dst (N := 55) rfl ?_); refine Kd.R_make (Kd.int .u32) _ 85 rfl (N := 55) rfl 38 _ _ rfl (t236.length : Int) rfl rfl Try.underlying38 (.int .u32 0) 4 info85 rfl (by decide) (by omega) 0 (ok := fun _ => True) (okp := fun _ => True) rfl (fun _ hk => hk) trivial (of_decide_eq_true (by assumption)) (Nat.le_trans (Nat.mul_le_mul_right _ (of_decide_eq_true (by assumption) : (t236.length : Int).toNat ≤ 70368744177664)) (by omega)) (Below.refl _ _) (Nat.le_refl _) ?_; intro v252 w34 ho35 hb hg_ hnew_; clear hg_ hnew_; (first | rw [← Ny251.out] at ho35 | (simp only [Int.reduceToNat] at ho35; rw [← Ny251.out] at ho35)); replace HO_7 := zA (Kd.V_elder' (by exact zV HO_7) (Kd.R_base ho35) hb); have HO253 := zA (Kd.R_lower (Kd.R_new' (Kd.R_new' ho35 (Kd.R_lt (by exact zR HO_4))) (Kd.R_lt (by exact zR HO_8))) (below_size (by exact zB HB))); replace HO_4 := zA (Kd.R_elder' (by exact zR HO_4) (Kd.R_base ho35) hb); replace HO_8 := zA (Kd.R_elder' (by exact zR HO_8) (Kd.R_base ho35) hb); replace HB := zA (below_step (by exact zB HB) hb); clear hb ho35; obtain ⟨Ao36, co36, eo36⟩ := Kd.R_slice HO253.out; subst eo36))
          go_loopg [58] k1 (fun kq v58 w' => ∃ (x5_2 : List Int) (x58_2 : Int), v58 = .int .i64 x58_2 ∧ Aside0 (nat_long.l1 kq x4_1 x5_2 t232 x8_1 (y251.length : Int) x58_2 = some (r1, r2)) ∧ Aside0 (kq ≤ k1) ∧ Aside0 (Kd.R (Kd.int .u32) 85 w' w.heap.size (fun k_ => some k_ ≠ ((.slice Ao36 y251.length co36) : Value).ownBlock ∧ some k_ ≠ ((.slice Ao18 x8_1.length co18) : Value).ownBlock) v243 x4_1) ∧ Aside0 (Kd.R (Kd.int .u32) 85 w' w.heap.size (fun k_ => some k_ ≠ (v243 : Value).ownBlock ∧ some k_ ≠ ((.slice Ao18 x8_1.length co18) : Value).ownBlock) (.slice Ao36 y251.length co36) x5_2) ∧ Aside0 (Kd.R (Kd.int .u32) 85 w' w.heap.size (fun k_ => some k_ ≠ (v243 : Value).ownBlock ∧ some k_ ≠ ((.slice Ao36 y251.length co36) : Value).ownBlock) (.slice Ao18 x8_1.length co18) x8_1) ∧ Aside0 (Below w.heap.size w w'))
          case atStart => exact ⟨(y251), (0), (by first | rfl | (simp; done) | (simp [*]; done)), H', ⟨Nat.le_refl _⟩, ⟨by (try simp only [hl7_1]); (try simp only [hl8_1]); (with_reducible repeat (first | apply Kd.R_alloc | apply Kd.R_drewN | apply Kd.R_drew)); exact Kd.R_mono HO_4.out (fun _ hk => ⟨hk.2, hk.1⟩)⟩, ⟨by (try simp only [hl7_1]); (try simp only [hl8_1]); (with_reducible repeat (first | apply Kd.R_alloc | apply Kd.R_drewN | apply Kd.R_drew)); exact Kd.R_mono HO253.out (fun _ hk => ⟨hk.1.2, hk.2⟩)⟩, ⟨by (try simp only [hl7_1]); (try simp only [hl8_1]); exact zR HO_8⟩, ⟨by exact zB HB⟩⟩
          case round =>
           clear H'
           try clear c1
           try clear c2
           try clear p2
           try clear q2
           try clear hx2
           try clear hf2
           try clear c3
           try clear c4
           try clear c4b0
           try clear c5
           try clear c5b0
           try clear p6
           try clear c10
           try clear c11
           try clear c11b0
           try clear c11b1
           try clear c12
           try clear c12b0
           try clear c12b1
           try clear c21
           try clear c21b0
           try clear c22
           try clear c22b0
           try clear c22b1
           try clear c23
           try clear c23b0
           try clear c23b1
           try clear p23
           try clear q23
           try clear hx23
           try clear c24
           try clear c24b0
           try clear c24b1
           try clear c26
           try clear c26b0
           try clear p27
           try clear q27
           try clear hx27
           try clear hf27
           try clear c28
           try clear q28
           try clear c32
           try clear c32b0
           try clear c32b1
           try clear c33
           try clear c33b0
           try clear c33b1
           try clear hx231_0
           try clear hx27_0
           try clear p2
           try clear p231
           try clear p27
           try clear p6
           try clear q028
           try clear q2
           try clear q231
           try clear q27
           try clear q28
           obtain ⟨x5_2, x58_2, rfl, HA, HK2, HO_4, HO_5, HO_8, HB⟩ := hrel
           have hl5_2 := (Kd.R_reads' HO_5.out).1
           rw [hl5_2] at HO_5
           (try simp only [hl5_2])
           (try simp only [hl5_2] at HO_4)
           (try simp only [hl5_2] at HO_8)
           cases gk with
           | zero => exact absurd HA.out (by simp [nat_long.l1])
           | succ k2 =>
            have H := HA.out
            clear HA
            simp only [nat_long.l1] at H
            by_cases c37 : x58_2 < (y251.length : Int)
            ·
             rw [if_pos c37] at H
             have c37b0 : decide (x58_2 < (y251.length : Int)) = true := decide_eq_true c37
             (try simp only [hl5_2] at c37b0)
             (try simp only [hl8_1] at c37b0)
             (try simp only [hl7_1] at c37b0)
             clear c37
             by_cases c38 : 0 ≤ x58_2
             ·
              rw [if_pos c38] at H
              have c38b0 : decide (0 ≤ x58_2) = true := decide_eq_true c38
              clear c38
              by_cases c39 : x58_2 < (x8_1.length : Int)
              ·
               rw [if_pos c39] at H
               have c39b0 : decide (x58_2 < (x8_1.length : Int)) = true := decide_eq_true c39
               clear c39
               obtain ⟨ji40, hji40⟩ : ∃ j_ : Int, (wrap64 (x58_2 + 1)) = j_ := ⟨_, rfl⟩
               replace H : (if 0 ≤ (ji40) then (if (ji40) < (x8_1.length : Int) then (if 0 ≤ t232 then (if x58_2 < (x5_2.length : Int) then (nat_long.l1 k2 x4_1 (x5_2.set (x58_2 : Int).toNat ((shr .u64 (Go.bits .or .u64 (IntKind.u64.wrap (rd x8_1 x58_2)) (IntKind.u64.wrap ((IntKind.u64.wrap (rd x8_1 (ji40))) * 4294967296))) t232) % 4294967296)) t232 x8_1 (y251.length : Int) ji40) else (none)) else (none)) else (none)) else (none)) = some (r1, r2) := by first | (rw [hji40] at H; exact H) | (simp only [hji40] at H ⊢; exact H)
               have hji40w : (IntKind.i64.wrap (x58_2 + 1)) = ji40 := (i64_w _).trans hji40
               by_cases c41 : 0 ≤ (ji40)
               ·
                rw [if_pos c41] at H
                have c41b0 : decide (0 ≤ (ji40)) = true := decide_eq_true c41
                clear c41
                by_cases c42 : (ji40) < (x8_1.length : Int)
                ·
                 rw [if_pos c42] at H
                 have c42b0 : decide ((ji40) < (x8_1.length : Int)) = true := decide_eq_true c42
                 clear c42
                 by_cases c43 : 0 ≤ t232
                 ·
                  rw [if_pos c43] at H
                  have c43b0 := eq_true c43
                  have c43b1 : decide (0 ≤ t232) = true := decide_eq_true c43
                  clear c43
                  obtain ⟨ji44, hji44⟩ : ∃ j_ : Int, (shr .u64 (Go.bits .or .u64 (IntKind.u64.wrap (rd x8_1 x58_2)) (IntKind.u64.wrap ((IntKind.u64.wrap (rd x8_1 (ji40))) * 4294967296))) t232) = j_ := ⟨_, rfl⟩
                  replace H : (if x58_2 < (x5_2.length : Int) then (nat_long.l1 k2 x4_1 (x5_2.set (x58_2 : Int).toNat ((ji44) % 4294967296)) t232 x8_1 (y251.length : Int) ji40) else (none)) = some (r1, r2) := by first | (rw [hji44] at H; exact H) | (simp only [hji44] at H ⊢; exact H)
                  have hji44_ : ((Go.bits .or .u64 (IntKind.u64.wrap (rd x8_1 x58_2)) (IntKind.u64.wrap ((IntKind.u64.wrap (rd x8_1 (ji40))) * 4294967296))) / 2 ^ min t232.toNat 64) = ji44 := hji44
                  have hji44z : t232 ≤ 64 → ((Go.bits .or .u64 (IntKind.u64.wrap (rd x8_1 x58_2)) (IntKind.u64.wrap ((IntKind.u64.wrap (rd x8_1 (ji40))) * 4294967296))) / 2 ^ t232.toNat) = ji44 := shr_small hji44
                  by_cases c45 : x58_2 < (x5_2.length : Int)
                  ·
                   rw [if_pos c45] at H
                   have c45b0 : decide (x58_2 < (x5_2.length : Int)) = true := decide_eq_true c45
                   clear c45
                   obtain ⟨y256, hy256⟩ : ∃ y_ : List Int, y_ = (x5_2.set (x58_2 : Int).toNat ((ji44) % 4294967296)) := ⟨_, rfl⟩
                   replace H : (nat_long.l1 k2 x4_1 y256 t232 x8_1 (y251.length : Int) ji40) = some (r1, r2) := by first | (rw [hy256]; with_reducible exact H) | (have H := (Option.bind_some _ _).symm.trans H; first | (rw [hy256]; with_reducible exact H) | with_reducible exact H) | (rw [hy256]; exact H) | exact H
                   have Ny256 := zA hy256
                   clear hy256
                   have H' := zA H
                   clear H
                   try go_wp2
                   have n0_ := zA (Kd.R_drew HO_4.out)
                   have n1_ := zA (Kd.R_drew HO_5.out)
                   have n2_ := zA (Kd.R_drew HO_8.out)
                   have n3_ := zA (below_drew1 HB.out)
                   clear HO_4
                   clear HO_5
                   clear HO_8
                   clear HB
                   have HO_4 := n0_
                   have HO_5 := n1_
                   have HO_8 := n2_
                   have HB := n3_
                   clear n0_ n1_ n2_ n3_
                   have p254 : 0 ≤ (x58_2 : Int) := of_decide_eq_true (by assumption)
                   have q254 : x58_2 < (x8_1.length : Int) := of_decide_eq_true (by assumption)
                   obtain ⟨ad254, e254, hx254_0⟩ := Kd.at_int (Kd.R_reads' HO_8.out).2.2 x58_2 p254 q254
                   cases e254
                   replace p254 := eq_true p254
                   replace q254 := eq_true q254
                   have p255 : 0 ≤ ((ji40) : Int) := of_decide_eq_true (by assumption)
                   have q255 : (ji40) < (x8_1.length : Int) := of_decide_eq_true (by assumption)
                   obtain ⟨ad255, e255, hx255_0⟩ := Kd.at_int (Kd.R_reads' HO_8.out).2.2 (ji40) p255 q255
                   obtain rfl : ad254 = ad255 := (by injection e255)
                   replace p255 := eq_true p255
                   replace q255 := eq_true q255
                   have p46 : 0 ≤ (x58_2 : Int) := of_decide_eq_true (by assumption)
                   have q46 : (x58_2 : Int) < ((x5_2.length : Int) : Int) := of_decide_eq_true (by assumption)
                   obtain ⟨go46, co46, eo46, gb46, gl46, cl46, HG46⟩ := Kd.R_form HO_5.out (by omega)
                   (first | cases eo46 | (injection eo46 with ea_ en_ ec_; (first | subst ea_ | (injection ea_ with ea_; subst ea_)); subst ec_; clear en_))
                   have GB46 := zA gb46
                   have GG46 := zA HG46
                   clear gb46 gl46 HG46
                   obtain ⟨hx46_0, hf46_0⟩ := Kd.R_celln 0 HO_5.out (x58_2 : Int) p46 q46
                   replace p46 := eq_true p46
                   replace q46 := eq_true q46
                   have HP48 := Kd.R_putn HO_5.out (x58_2 : Int) ((ji44) % 4294967296)
                   rw [← Ny256.out] at HP48
                   have HQ48 := zA HP48
                   clear HP48
                   refine start_ (n := 20) (S := fun w' => w'.cell? (ad254.add (x58_2).toNat) = some (.int .u32 (rd x8_1 x58_2)) ∧ w'.cell? (ad254.add ((ji40)).toNat) = some (.int .u32 (rd x8_1 (ji40)))) (ds := [19]) #[false, false, false, false, false, false, false, false, false, false, false, false, false, false, false, false, false, false, false, false] (by kernel_rfl) rfl rfl ⟨hx254_0, hx255_0⟩ (fun hHeld => ?_); refine with_tabW nat_long.tab14 nat_long.bits14 (fun HT_ HW_ => ?_)
                   generalize wr.drew = w47 at HO_4 HO_5 HO_8 HB GG46 HQ48 hf46_0 hx254_0 hx255_0 hx46_0 hHeld ⊢
                   refine pure_ (i := 0) (N := some 61) (v := ?_) (a' := ?_) #[true, false, false, false, false, false, false, false, false, false, false, false, false, false, false, false, false, false, false, false] rfl rfl (any_of HT_.out (by kernel_rfl)) (fun _ _ _ h => h) (Or.inl ⟨by rfl, ?_⟩) ?_ ?_
                   rotate_left
                   ·
                    intro w'
                    go_simp
                    with_reducible rfl
                   rotate_left
                   ·
                    simp only [Act.put, List.setIfInBounds_toArray, List.set_cons_zero, List.set_cons_succ, i64_w, i32_w]
                    rfl
                   refine pure_ (i := 1) (N := some 62) (v := ?_) (a' := ?_) #[true, true, false, false, false, false, false, false, false, false, false, false, false, false, false, false, false, false, false, false] rfl rfl (any_of HT_.out (by kernel_rfl)) (fun _ _ _ h => h) (Or.inl ⟨by rfl, ?_⟩) ?_ ?_
                   rotate_left
                   ·
                    intro w'
                    go_simp
                    with_reducible rfl
                   rotate_left
                   ·
                    simp only [Act.put, List.setIfInBounds_toArray, List.set_cons_zero, List.set_cons_succ, i64_w, i32_w]
                    rfl
                   refine pure_ (i := 2) (N := some 63) (v := ?_) (a' := ?_) #[true, true, true, false, false, false, false, false, false, false, false, false, false, false, false, false, false, false, false, false] rfl rfl (any_of HT_.out (by kernel_rfl)) (fun _ _ _ h => h) (Or.inl ⟨by rfl, ?_⟩) ?_ ?_
                   rotate_left
                   ·
                    intro w'
                    go_simp
                    with_reducible rfl
                   rotate_left
                   ·
                    simp only [Act.put, List.setIfInBounds_toArray, List.set_cons_zero, List.set_cons_succ, i64_w, i32_w]
                    rfl
                   refine pure_ (i := 3) (N := some 64) (v := ?_) (a' := ?_) #[true, true, true, true, false, false, false, false, false, false, false, false, false, false, false, false, false, false, false, false] rfl rfl (any_of HT_.out (by kernel_rfl)) (fun _ _ _ h => h) (Or.inl ⟨by rfl, ?_⟩) ?_ ?_
                   rotate_left
                   ·
                    intro w'
                    go_simp
                    with_reducible rfl
                   rotate_left
                   ·
                    simp only [Act.put, List.setIfInBounds_toArray, List.set_cons_zero, List.set_cons_succ, i64_w, i32_w]
                    rfl
                   refine pure_ (i := 4) (N := some 65) (v := ?_) (a' := ?_) #[true, true, true, true, true, false, false, false, false, false, false, false, false, false, false, false, false, false, false, false] rfl rfl (any_of HT_.out (by kernel_rfl)) (fun _ _ _ h => h) (Or.inl ⟨by rfl, ?_⟩) ?_ ?_
                   rotate_left
                   ·
                    intro w'
                    go_simp
                    with_reducible rfl
                   rotate_left
                   ·
                    simp only [Act.put, List.setIfInBounds_toArray, List.set_cons_zero, List.set_cons_succ, i64_w, i32_w]
                    rfl
                   refine pure_ (i := 7) (N := some 68) (v := ?_) (a' := ?_) #[true, true, true, true, true, false, false, true, false, false, false, false, false, false, false, false, false, false, false, false] rfl rfl (any_of HT_.out (by kernel_rfl)) (fun _ _ _ h => h) (Or.inl ⟨by rfl, ?_⟩) ?_ ?_
                   rotate_left
                   ·
                    intro w'
                    go_simp
                    with_reducible rfl
                   rotate_left
                   ·
                    simp only [Act.put, List.setIfInBounds_toArray, List.set_cons_zero, List.set_cons_succ, i64_w, i32_w]
                    rfl
                   refine pure_ (i := 8) (N := some 69) (v := ?_) (a' := ?_) #[true, true, true, true, true, false, false, true, true, false, false, false, false, false, false, false, false, false, false, false] rfl rfl (any_of HT_.out (by kernel_rfl)) (fun _ _ _ h => h) (Or.inl ⟨by rfl, ?_⟩) ?_ ?_
                   rotate_left
                   ·
                    intro w'
                    go_simp
                    with_reducible rfl
                   rotate_left
                   ·
                    simp only [Act.put, List.setIfInBounds_toArray, List.set_cons_zero, List.set_cons_succ, i64_w, i32_w]
                    rfl
                   refine pure_ (i := 9) (N := some 70) (v := ?_) (a' := ?_) #[true, true, true, true, true, false, false, true, true, true, false, false, false, false, false, false, false, false, false, false] rfl rfl (any_of HT_.out (by kernel_rfl)) (fun _ _ _ h => h) (Or.inl ⟨by rfl, ?_⟩) ?_ ?_
                   rotate_left
                   ·
                    intro w'
                    go_simp
                    with_reducible rfl
                   rotate_left
                   ·
                    simp only [Act.put, List.setIfInBounds_toArray, List.set_cons_zero, List.set_cons_succ, i64_w, i32_w]
                    rfl
                   refine pure_ (i := 10) (N := some 71) (v := ?_) (a' := ?_) #[true, true, true, true, true, false, false, true, true, true, true, false, false, false, false, false, false, false, false, false] rfl rfl (any_of HT_.out (by kernel_rfl)) (fun _ _ _ h => h) (Or.inl ⟨by rfl, ?_⟩) ?_ ?_
                   rotate_left
                   ·
                    intro w'
                    go_simp
                    with_reducible rfl
                   rotate_left
                   ·
                    simp only [Act.put, List.setIfInBounds_toArray, List.set_cons_zero, List.set_cons_succ, i64_w, i32_w]
                    rfl
                   refine pure_ (i := 15) (N := some 76) (v := ?_) (a' := ?_) #[true, true, true, true, true, false, false, true, true, true, true, false, false, false, false, true, false, false, false, false] rfl rfl (any_of HT_.out (by kernel_rfl)) (fun _ _ _ h => h) (Or.inl ⟨by rfl, ?_⟩) ?_ ?_
                   rotate_left
                   ·
                    intro w'
                    go_simp
                    with_reducible rfl
                   rotate_left
                   ·
                    simp only [Act.put, List.setIfInBounds_toArray, List.set_cons_zero, List.set_cons_succ, i64_w, i32_w]
                    rfl
                   refine take_ (i := 5) (N := some 66) (v := ?_) (a' := ?_) #[true, true, true, true, true, true, false, true, true, true, true, false, false, false, false, true, false, false, false, false] rfl rfl (take_ofW HT_.out HW_.out (by kernel_rfl)) (fun _ _ _ h => h) (Or.inl ⟨by rfl, ?_⟩) hHeld ?_ ?_
                   rotate_left
                   ·
                    rintro w' ⟨s0, s1⟩
                    go_simp
                    with_reducible rfl
                   rotate_left
                   ·
                    simp only [Act.put, List.setIfInBounds_toArray, List.set_cons_zero, List.set_cons_succ, i64_w, i32_w]
                    rfl
                   refine pure_ (i := 6) (N := some 67) (v := ?_) (a' := ?_) #[true, true, true, true, true, true, true, true, true, true, true, false, false, false, false, true, false, false, false, false] rfl rfl (any_of HT_.out (by kernel_rfl)) (fun _ _ _ h => h) (Or.inl ⟨by rfl, ?_⟩) ?_ ?_
                   rotate_left
                   ·
                    intro w'
                    go_simp
                    with_reducible rfl
                   rotate_left
                   ·
                    simp only [Act.put, List.setIfInBounds_toArray, List.set_cons_zero, List.set_cons_succ, i64_w, i32_w]
                    rfl
                   refine take_ (i := 11) (N := some 72) (v := ?_) (a' := ?_) #[true, true, true, true, true, true, true, true, true, true, true, true, false, false, false, true, false, false, false, false] rfl rfl (take_ofW HT_.out HW_.out (by kernel_rfl)) (fun _ _ _ h => h) (Or.inl ⟨by rfl, ?_⟩) hHeld ?_ ?_
                   rotate_left
                   ·
                    rintro w' ⟨s0, s1⟩
                    go_simp
                    with_reducible rfl
                   rotate_left
                   ·
                    simp only [Act.put, List.setIfInBounds_toArray, List.set_cons_zero, List.set_cons_succ, i64_w, i32_w]
                    rfl
                   refine pure_ (i := 12) (N := some 73) (v := ?_) (a' := ?_) #[true, true, true, true, true, true, true, true, true, true, true, true, true, false, false, true, false, false, false, false] rfl rfl (any_of HT_.out (by kernel_rfl)) (fun _ _ _ h => h) (Or.inl ⟨by rfl, ?_⟩) ?_ ?_
                   rotate_left
                   ·
                    intro w'
                    go_simp
                    with_reducible rfl
                   rotate_left
                   ·
                    simp only [Act.put, List.setIfInBounds_toArray, List.set_cons_zero, List.set_cons_succ, i64_w, i32_w]
                    rfl
                   refine pure_ (i := 13) (N := some 74) (v := ?_) (a' := ?_) #[true, true, true, true, true, true, true, true, true, true, true, true, true, true, false, true, false, false, false, false] rfl rfl (any_of HT_.out (by kernel_rfl)) (fun _ _ _ h => h) (Or.inl ⟨by rfl, ?_⟩) ?_ ?_
                   rotate_left
                   ·
                    intro w'
                    go_simp
                    with_reducible rfl
                   rotate_left
                   ·
                    simp only [Act.put, List.setIfInBounds_toArray, List.set_cons_zero, List.set_cons_succ, i64_w, i32_w]
                    rfl
                   refine pure_ (i := 14) (N := some 75) (v := ?_) (a' := ?_) #[true, true, true, true, true, true, true, true, true, true, true, true, true, true, true, true, false, false, false, false] rfl rfl (any_of HT_.out (by kernel_rfl)) (fun _ _ _ h => h) (Or.inl ⟨by rfl, ?_⟩) ?_ ?_
                   rotate_left
                   ·
                    intro w'
                    go_simp
                    with_reducible rfl
                   rotate_left
                   ·
                    simp only [Act.put, List.setIfInBounds_toArray, List.set_cons_zero, List.set_cons_succ, i64_w, i32_w]
                    rfl
                   refine pure_ (i := 16) (N := some 77) (v := ?_) (a' := ?_) #[true, true, true, true, true, true, true, true, true, true, true, true, true, true, true, true, true, false, false, false] rfl rfl (any_of HT_.out (by kernel_rfl)) (fun _ _ _ h => h) (Or.inl ⟨by rfl, ?_⟩) ?_ ?_
                   rotate_left
                   ·
                    intro w'
                    go_simp
                    with_reducible rfl
                   rotate_left
                   ·
                    simp only [Act.put, List.setIfInBounds_toArray, List.set_cons_zero, List.set_cons_succ, i64_w, i32_w]
                    rfl
                   refine pure_ (i := 17) (N := some 78) (v := ?_) (a' := ?_) #[true, true, true, true, true, true, true, true, true, true, true, true, true, true, true, true, true, true, false, false] rfl rfl (any_of HT_.out (by kernel_rfl)) (fun _ _ _ h => h) (Or.inl ⟨by rfl, ?_⟩) ?_ ?_
                   rotate_left
                   ·
                    intro w'
                    go_simp
                    with_reducible rfl
                   rotate_left
                   ·
                    simp only [Act.put, List.setIfInBounds_toArray, List.set_cons_zero, List.set_cons_succ, i64_w, i32_w]
                    rfl
                   refine pure_ (i := 18) (N := some 79) (v := ?_) (a' := ?_) #[true, true, true, true, true, true, true, true, true, true, true, true, true, true, true, true, true, true, true, false] rfl rfl (any_of HT_.out (by kernel_rfl)) (fun _ _ _ h => h) (Or.inl ⟨by rfl, ?_⟩) ?_ ?_
                   rotate_left
                   ·
                    intro w'
                    go_simp
                    with_reducible rfl
                   rotate_left
                   ·
                    simp only [Act.put, List.setIfInBounds_toArray, List.set_cons_zero, List.set_cons_succ, i64_w, i32_w]
                    rfl
                   refine last_ (i := 19) (N := none) #[true, true, true, true, true, true, true, true, true, true, true, true, true, true, true, true, true, true, true, true] rfl rfl (one_of HT_.out (by kernel_rfl)) (by decide) (fun K hK => ?_)
                   refine skip_ (w1 := ?_) (by rfl) rfl ?_ ?_
                   rotate_left
                   ·
                    go_simp
                    rfl
                   refine hK.out _ _ ?_
                   clear hK K
                   refine done_ (done_of HT_.out (by kernel_rfl)) ?_
                   try go_wp2
                   (try simp only [← hl5_2])
                   go_roundg k2
                   case measure => have := HK1.out; have := HK2.out; omega
                   case rel => exact ⟨(y256), (ji40), (by first | rfl | (simp; done) | (simp only [← hji40] <;> (first | rfl | simp)) | (simp [*]; done)), H', ⟨by have := HK1.out; have := HK2.out; omega⟩, ⟨by (try simp only [hl7_1]); (try simp only [hl8_1]); (try simp only [hl5_2]); (with_reducible repeat (first | apply Kd.R_alloc | apply Kd.R_drewN | apply Kd.R_drew)); exact Kd.R_mono (Kd.R_far (p := ⟨go46, (x58_2 : Int).toNat, none⟩) (Kd.R_mono HO_4.out (fun k_ hk => (⟨hk, fun e_ => hk.1 (by rw [e_]; rfl)⟩ : _ ∧ k_ ≠ go46))) (fun _ hk => hk.2) (.int .u32 ((ji44) % 4294967296))) (fun _ hk => ⟨hk.1.1, hk.1.2⟩)⟩, ⟨by (try simp only [hl7_1]); (try simp only [hl8_1]); (try simp only [hl5_2]); (with_reducible repeat (first | apply Kd.R_alloc | apply Kd.R_drewN | apply Kd.R_drew)); exact HQ48.out⟩, ⟨by (try simp only [hl7_1]); (try simp only [hl8_1]); (try simp only [hl5_2]); (with_reducible repeat (first | apply Kd.R_alloc | apply Kd.R_drewN | apply Kd.R_drew)); exact Kd.R_mono (Kd.R_far (p := ⟨go46, (x58_2 : Int).toNat, none⟩) (Kd.R_mono HO_8.out (fun k_ hk => (⟨hk, fun e_ => hk.2 (by rw [e_]; rfl)⟩ : _ ∧ k_ ≠ go46))) (fun _ hk => hk.2) (.int .u32 ((ji44) % 4294967296))) (fun _ hk => ⟨hk.1.1, hk.1.2⟩)⟩, ⟨by repeat (first | (with_reducible first | exact HB.out | apply below_alloc | apply pw_below_drewN | apply below_drew1 | refine below_set ?_ GB46.out) | exact HB.out)⟩⟩
                  ·
                   rw [if_neg c45] at H
                   exact absurd H (by simp)
                 ·
                  rw [if_neg c43] at H
                  exact absurd H (by simp)
                ·
                 rw [if_neg c42] at H
                 exact absurd H (by simp)
               ·
                rw [if_neg c41] at H
                exact absurd H (by simp)
              ·
               rw [if_neg c39] at H
               exact absurd H (by simp)
             ·
              rw [if_neg c38] at H
              exact absurd H (by simp)
            ·
             rw [if_neg c37] at H
             have c37b0 : decide (x58_2 < (y251.length : Int)) = false := decide_eq_false c37
             (try simp only [hl5_2] at c37b0)
             (try simp only [hl8_1] at c37b0)
             (try simp only [hl7_1] at c37b0)
             clear c37
             simp only [Option.some.injEq, Prod.mk.injEq] at H
             obtain ⟨rfl, rfl⟩ := H
             go_wp2
             go_ret2
             exact ⟨_, _, by first | rfl | (simp [errW_none, errW_some] <;> rfl) | (simp only [← hji3, ← hji10]; first | rfl | (simp [errW_none, errW_some] <;> rfl)) | (simp [*, errW_none, errW_some] <;> rfl), by (with_reducible repeat (first | apply Kd.R_alloc | apply Kd.R_drewN | apply Kd.R_drew)); exact Kd.R_mono HO_4.out (fun _ hk => hk.1), by (with_reducible repeat (first | apply Kd.R_alloc | apply Kd.R_drewN | apply Kd.R_drew)); exact Kd.R_mono HO_5.out (fun _ hk => hk.1), by exact zB HB⟩
         ·
          rw [if_neg c33] at H
          exact absurd H (by simp)
        ·
         rw [if_neg c32] at H
         exact absurd H (by simp)
    ·
     rw [if_neg c12] at H
     exact absurd H (by simp)
   ·
    rw [if_neg c11] at H
    exact absurd H (by simp)
  ·
   rw [if_neg c5] at H
   exact absurd H (by simp)
 ·
  rw [if_neg c4] at H
  exact absurd H (by simp)
/-! ### nat_DivMod: function 98 -/
def nat_DivMod.f (k : Nat) (l0 : List Int) (l1 : List Int) : Option (List Int × List Int × Int) := (nat_short.f k l0).bind fun t257 => ((nat_short.f k l1).bind fun t260 => (if (t260.length : Int) = 0 then (some (([] : List Int), ([] : List Int), 7)) else ((nat_Cmp.f k t257 t260).bind fun t263 => (if t263 < 0 then ((nat_Trim.f k t257).bind fun t264 => (some (([] : List Int), t264, 0))) else (if (t260.length : Int) = 1 then (if 0 < (t260.length : Int) then ((nat_digit.f k t257 (rd t260 0)).bind fun bt268 => ((nat_Of.f k (IntKind.u64.wrap (bt268.2))).bind fun t272 => (some (bt268.1, t272, 0)))) else (none)) else ((nat_long.f k t257 t260).bind fun bt275 => ((nat_Trim.f k bt275.1).bind fun t281 => ((nat_Trim.f k bt275.2).bind fun t284 => (some (t281, t284, 0))))))))))
set_option maxHeartbeats 8000000 in
set_option maxRecDepth 100000 in
theorem nat_DivMod.calls (k : Nat) (P0_ : Nat → Prop) (A0 : Option Addr) (c0 : Nat) (l0 : List Int) (P1_ : Nat → Prop) (A1 : Option Addr) (c1 : Nat) (l1 : List Int) (r1 : List Int) (r2 : List Int) (r3 : Int) (w : World) (hs0 : Kd.V (Kd.int .u32) 85 w w.heap.size (fun k_ => P0_ k_) (.slice A0 l0.length c0) l0) (hs1 : Kd.V (Kd.int .u32) 85 w w.heap.size (fun k_ => P1_ k_) (.slice A1 l1.length c1) l1) (h : nat_DivMod.f k l0 l1 = some (r1, r2, r3)) :
  Calls Try.prog 98 #[.slice A0 l0.length c0, .slice A1 l1.length c1] w fun e w' => ∃ v0_ v1_ : Value, e = .returned (.tuple #[v0_, v1_, .int .i64 r3]) ∧ Kd.V (Kd.int .u32) 85 w' w.heap.size (fun k_ => ((P0_ k_ ∨ P1_ k_) ∨ w.heap.size ≤ k_) ∧ some k_ ≠ (v1_ : Value).ownBlock) v0_ r1 ∧ Kd.R (Kd.int .u32) 85 w' w.heap.size (fun k_ => (w.heap.size ≤ k_)) v1_ r2 ∧ Below w.heap.size w w' := by
 have HO0 := zA (show Kd.V (Kd.int .u32) 85 w w.heap.size (fun k_ => ((P0_ k_ ∨ P1_ k_) ∨ w.heap.size ≤ k_)) (.slice A0 l0.length c0) l0 from Kd.V_mono hs0 (fun k_ hk => .inl (.inl hk)))
 have HO1 := zA (show Kd.V (Kd.int .u32) 85 w w.heap.size (fun k_ => ((P0_ k_ ∨ P1_ k_) ∨ w.heap.size ≤ k_)) (.slice A1 l1.length c1) l1 from Kd.V_mono hs1 (fun k_ hk => .inl (.inr hk)))
 have HB := zA (Below.refl w.heap.size w)
 have H : ((nat_short.f k l0).bind fun t257 => ((nat_short.f k l1).bind fun t260 => (if (t260.length : Int) = 0 then (some (([] : List Int), ([] : List Int), 7)) else ((nat_Cmp.f k t257 t260).bind fun t263 => (if t263 < 0 then ((nat_Trim.f k t257).bind fun t264 => (some (([] : List Int), t264, 0))) else (if (t260.length : Int) = 1 then (if 0 < (t260.length : Int) then ((nat_digit.f k t257 (rd t260 0)).bind fun bt268 => ((nat_Of.f k (IntKind.u64.wrap (bt268.2))).bind fun t272 => (some (bt268.1, t272, 0)))) else (none)) else ((nat_long.f k t257 t260).bind fun bt275 => ((nat_Trim.f k bt275.1).bind fun t281 => ((nat_Trim.f k bt275.2).bind fun t284 => (some (t281, t284, 0))))))))))) = some (r1, r2, r3) := h
 clear h
 replace H := Option.bind_eq_some_iff.mp H
 obtain ⟨t257, A30, H⟩ := H
 replace H : ((nat_short.f k l1).bind fun t260 => (if (t260.length : Int) = 0 then (some (([] : List Int), ([] : List Int), 7)) else ((nat_Cmp.f k t257 t260).bind fun t263 => (if t263 < 0 then ((nat_Trim.f k t257).bind fun t264 => (some (([] : List Int), t264, 0))) else (if (t260.length : Int) = 1 then (if 0 < (t260.length : Int) then ((nat_digit.f k t257 (rd t260 0)).bind fun bt268 => ((nat_Of.f k (IntKind.u64.wrap (bt268.2))).bind fun t272 => (some (bt268.1, t272, 0)))) else (none)) else ((nat_long.f k t257 t260).bind fun bt275 => ((nat_Trim.f k bt275.1).bind fun t281 => ((nat_Trim.f k bt275.2).bind fun t284 => (some (t281, t284, 0)))))))))) = some (r1, r2, r3) := H
 have A3 := zA A30
 clear A30
 replace H := Option.bind_eq_some_iff.mp H
 obtain ⟨t260, A40, H⟩ := H
 replace H : (if (t260.length : Int) = 0 then (some (([] : List Int), ([] : List Int), 7)) else ((nat_Cmp.f k t257 t260).bind fun t263 => (if t263 < 0 then ((nat_Trim.f k t257).bind fun t264 => (some (([] : List Int), t264, 0))) else (if (t260.length : Int) = 1 then (if 0 < (t260.length : Int) then ((nat_digit.f k t257 (rd t260 0)).bind fun bt268 => ((nat_Of.f k (IntKind.u64.wrap (bt268.2))).bind fun t272 => (some (bt268.1, t272, 0)))) else (none)) else ((nat_long.f k t257 t260).bind fun bt275 => ((nat_Trim.f k bt275.1).bind fun t281 => ((nat_Trim.f k bt275.2).bind fun t284 => (some (t281, t284, 0))))))))) = some (r1, r2, r3) := H
 have A4 := zA A40
 clear A40
 by_cases c5 : (t260.length : Int) = 0
 ·
  rw [if_pos c5] at H
  have c5b0 : ((t260.length : Int) == 0) = true := beq_iff_eq.mpr c5
  have c5b1 : ((t260.length : Int) != 0) = false := bne_eq_false_iff_eq.mpr c5
  clear c5
  simp only [Option.some.injEq, Prod.mk.injEq] at H
  obtain ⟨rfl, rfl, rfl⟩ := H
  go_enter Try.func98, Try.ntmps98
  go_wp2_with (first | ((with_reducible refine gate_callee (f := 100) rfl ?_); refine goesL_ (some 12) rfl rfl Try.func100 (by kernel_rfl) rfl #[.slice A0 l0.length c0] rfl (by (try simp only [List.map_toArray, List.map_cons, List.map_nil]); first | done | rfl | (simp only [List.length_drop, List.length_take]; rfl)) ?_; (with_reducible refine (nat_short.calls k (fun k_ => ((P0_ k_ ∨ P1_ k_) ∨ w.heap.size ≤ k_)) _ _ l0 t257 _ ?side1 A3.out).mono ?_); (case side1 => exact HO0.out); rintro e w6 ⟨v258, rfl, ho0, hb⟩; refine ⟨_, rfl, ?_⟩; replace HO0 := zA (Kd.V_below (by exact zV HO0) hb); replace HO1 := zA (Kd.V_below (by exact zV HO1) hb); have HO259 := zA (Kd.V_lower (Kd.V_mono (ok' := fun k_ => ((P0_ k_ ∨ P1_ k_) ∨ w.heap.size ≤ k_)) ho0 (fun k_ hk_ => Or.elim hk_ (fun hs_ => hs_) (fun hn_ => (.inr (Nat.le_trans (below_size (by exact zB HB)) hn_))))) (below_size (by exact zB HB))); replace HB := zA (below_step (by exact zB HB) hb); (try clear hb ho0)) | ((with_reducible refine gate_callee (f := 100) rfl ?_); refine goesL_ (some 14) rfl rfl Try.func100 (by kernel_rfl) rfl #[.slice A1 l1.length c1] rfl (by (try simp only [List.map_toArray, List.map_cons, List.map_nil]); first | done | rfl | (simp only [List.length_drop, List.length_take]; rfl)) ?_; (with_reducible refine (nat_short.calls k (fun k_ => ((P0_ k_ ∨ P1_ k_) ∨ w.heap.size ≤ k_)) _ _ l1 t260 _ ?side1 A4.out).mono ?_); (case side1 => exact HO1.out); rintro e w7 ⟨v261, rfl, ho0, hb⟩; refine ⟨_, rfl, ?_⟩; replace HO0 := zA (Kd.V_below (by exact zV HO0) hb); replace HO1 := zA (Kd.V_below (by exact zV HO1) hb); replace HO259 := zA (Kd.V_below (by exact zV HO259) hb); have HO262 := zA (Kd.V_lower (Kd.V_mono (ok' := fun k_ => ((P0_ k_ ∨ P1_ k_) ∨ w.heap.size ≤ k_)) ho0 (fun k_ hk_ => Or.elim hk_ (fun hs_ => hs_) (fun hn_ => (.inr (Nat.le_trans (below_size (by exact zB HB)) hn_))))) (below_size (by exact zB HB))); replace HB := zA (below_step (by exact zB HB) hb); (try clear hb ho0); obtain ⟨Ao8, co8, eo8⟩ := Kd.V_slice HO262.out; subst eo8))
  go_ret3
  exact ⟨_, _, by first | rfl | (simp [errW_none, errW_some] <;> rfl) | (simp [*, errW_none, errW_some] <;> rfl), Kd.V_mono (ok := fun _ => False) (Kd.R_V (base := 0) (Kd.R_nil _ _ _ _ _)) (fun k_ hk => hk.elim), by first | exact Kd.R_nil _ _ _ _ _ | exact Kd.N_nil _ _ _ _ _ | exact Kd.V_nil _ _ _ _ _ | exact Kd.Q_nil _ _ _ _ _ | exact Kd.S_nil _ _ _ _ _, by exact zB HB⟩
 ·
  rw [if_neg c5] at H
  have c5b0 : ((t260.length : Int) == 0) = false := beq_eq_false_iff_ne.mpr c5
  have c5b1 : ((t260.length : Int) != 0) = true := bne_iff_ne.mpr c5
  have c5b2 : ¬ (t260 = []) := fun h_ => c5 (by rw [h_]; rfl)
  replace H := Option.bind_eq_some_iff.mp H
  obtain ⟨t263, A90, H⟩ := H
  replace H : (if t263 < 0 then ((nat_Trim.f k t257).bind fun t264 => (some (([] : List Int), t264, 0))) else (if (t260.length : Int) = 1 then (if 0 < (t260.length : Int) then ((nat_digit.f k t257 (rd t260 0)).bind fun bt268 => ((nat_Of.f k (IntKind.u64.wrap (bt268.2))).bind fun t272 => (some (bt268.1, t272, 0)))) else (none)) else ((nat_long.f k t257 t260).bind fun bt275 => ((nat_Trim.f k bt275.1).bind fun t281 => ((nat_Trim.f k bt275.2).bind fun t284 => (some (t281, t284, 0))))))) = some (r1, r2, r3) := H
  have A9 := zA A90
  clear A90
  by_cases c10 : t263 < 0
  ·
   rw [if_pos c10] at H
   have c10b0 : decide (t263 < 0) = true := decide_eq_true c10
   clear c10
   replace H := Option.bind_eq_some_iff.mp H
   obtain ⟨t264, A110, H⟩ := H
   replace H : (some (([] : List Int), t264, 0)) = some (r1, r2, r3) := H
   have A11 := zA A110
   clear A110
   simp only [Option.some.injEq, Prod.mk.injEq] at H
   obtain ⟨rfl, rfl, rfl⟩ := H
   go_enter Try.func98, Try.ntmps98
   go_wp2_with (first | ((with_reducible refine gate_callee (f := 100) rfl ?_); refine goesL_ (some 12) rfl rfl Try.func100 (by kernel_rfl) rfl #[.slice A0 l0.length c0] rfl (by (try simp only [List.map_toArray, List.map_cons, List.map_nil]); first | done | rfl | (simp only [List.length_drop, List.length_take]; rfl)) ?_; (with_reducible refine (nat_short.calls k (fun k_ => ((P0_ k_ ∨ P1_ k_) ∨ w.heap.size ≤ k_)) _ _ l0 t257 _ ?side1 A3.out).mono ?_); (case side1 => exact HO0.out); rintro e w12 ⟨v258, rfl, ho0, hb⟩; refine ⟨_, rfl, ?_⟩; replace HO0 := zA (Kd.V_below (by exact zV HO0) hb); replace HO1 := zA (Kd.V_below (by exact zV HO1) hb); have HO259 := zA (Kd.V_lower (Kd.V_mono (ok' := fun k_ => ((P0_ k_ ∨ P1_ k_) ∨ w.heap.size ≤ k_)) ho0 (fun k_ hk_ => Or.elim hk_ (fun hs_ => hs_) (fun hn_ => (.inr (Nat.le_trans (below_size (by exact zB HB)) hn_))))) (below_size (by exact zB HB))); replace HB := zA (below_step (by exact zB HB) hb); (try clear hb ho0)) | ((with_reducible refine gate_callee (f := 100) rfl ?_); refine goesL_ (some 14) rfl rfl Try.func100 (by kernel_rfl) rfl #[.slice A1 l1.length c1] rfl (by (try simp only [List.map_toArray, List.map_cons, List.map_nil]); first | done | rfl | (simp only [List.length_drop, List.length_take]; rfl)) ?_; (with_reducible refine (nat_short.calls k (fun k_ => ((P0_ k_ ∨ P1_ k_) ∨ w.heap.size ≤ k_)) _ _ l1 t260 _ ?side1 A4.out).mono ?_); (case side1 => exact HO1.out); rintro e w13 ⟨v261, rfl, ho0, hb⟩; refine ⟨_, rfl, ?_⟩; replace HO0 := zA (Kd.V_below (by exact zV HO0) hb); replace HO1 := zA (Kd.V_below (by exact zV HO1) hb); replace HO259 := zA (Kd.V_below (by exact zV HO259) hb); have HO262 := zA (Kd.V_lower (Kd.V_mono (ok' := fun k_ => ((P0_ k_ ∨ P1_ k_) ∨ w.heap.size ≤ k_)) ho0 (fun k_ hk_ => Or.elim hk_ (fun hs_ => hs_) (fun hn_ => (.inr (Nat.le_trans (below_size (by exact zB HB)) hn_))))) (below_size (by exact zB HB))); replace HB := zA (below_step (by exact zB HB) hb); (try clear hb ho0); obtain ⟨Ao14, co14, eo14⟩ := Kd.V_slice HO262.out; subst eo14; obtain ⟨Ao15, co15, eo15⟩ := Kd.V_slice HO259.out; subst eo15) | ((with_reducible refine gate_callee (f := 95) rfl ?_); refine goesL_ (some 22) rfl rfl Try.func95 (by kernel_rfl) rfl #[.slice Ao15 t257.length co15, .slice Ao14 t260.length co14] rfl (by (try simp only [List.map_toArray, List.map_cons, List.map_nil]); first | done | rfl | (simp only [List.length_drop, List.length_take]; rfl)) ?_; (with_reducible refine (nat_Cmp.calls k _ _ t257 _ _ t260 t263 _ ?side1 ?side2 ?side3 ?side4 A9.out).mono ?_); (case side1 => exact zC ((Kd.V_reads' HO259.out).2.2)); (case side2 => exact (Kd.V_reads' HO259.out).2.1); (case side3 => exact zC ((Kd.V_reads' HO262.out).2.2)); (case side4 => exact (Kd.V_reads' HO262.out).2.1); rintro e w16 ⟨rfl, hb⟩; refine ⟨_, rfl, ?_⟩; replace HO0 := zA (Kd.V_below (by exact zV HO0) hb); replace HO1 := zA (Kd.V_below (by exact zV HO1) hb); replace HO259 := zA (Kd.V_below (by exact zV HO259) hb); replace HO262 := zA (Kd.V_below (by exact zV HO262) hb); replace HB := zA (below_step (by exact zB HB) hb); (try clear hb)) | ((with_reducible refine gate_callee (f := 101) rfl ?_); refine goesL_ (some 25) rfl rfl Try.func101 (by kernel_rfl) rfl #[.slice Ao15 t257.length co15] rfl (by (try simp only [List.map_toArray, List.map_cons, List.map_nil]); first | done | rfl | (simp only [List.length_drop, List.length_take]; rfl)) ?_; (with_reducible refine (nat_Trim.calls k _ _ t257 t264 _ ?side1 ?side2 A11.out).mono ?_); (case side1 => exact zC ((Kd.V_reads' HO259.out).2.2)); (case side2 => exact (Kd.V_reads' HO259.out).2.1); rintro e w17 ⟨v265, rfl, ho0, hb⟩; refine ⟨_, rfl, ?_⟩; replace HO0 := zA (Kd.V_elder' (by exact zV HO0) (Kd.R_base ho0) hb); replace HO1 := zA (Kd.V_elder' (by exact zV HO1) (Kd.R_base ho0) hb); replace HO259 := zA (Kd.V_elder' (by exact zV HO259) (Kd.R_base ho0) hb); replace HO262 := zA (Kd.V_elder' (by exact zV HO262) (Kd.R_base ho0) hb); have HO266 := zA (Kd.R_lower (Kd.R_newM (M := fun k_ => (w.heap.size ≤ k_)) ho0 (below_size (by exact zB HB)) (fun k_ h_ => h_)) (below_size (by exact zB HB))); replace HB := zA (below_step (by exact zB HB) hb); (try clear hb ho0)))
   go_ret3
   exact ⟨_, _, by first | rfl | (simp [errW_none, errW_some] <;> rfl) | (simp [*, errW_none, errW_some] <;> rfl), Kd.V_mono (ok := fun _ => False) (Kd.R_V (base := 0) (Kd.R_nil _ _ _ _ _)) (fun k_ hk => hk.elim), by (with_reducible repeat (first | apply Kd.R_alloc | apply Kd.R_drewN | apply Kd.R_drew)); exact Kd.R_mono HO266.out (fun _ hk => hk.1), by exact zB HB⟩
  ·
   rw [if_neg c10] at H
   have c10b0 : decide (t263 < 0) = false := decide_eq_false c10
   clear c10
   by_cases c18 : (t260.length : Int) = 1
   ·
    rw [if_pos c18] at H
    have c18b0 : ((t260.length : Int) == 1) = true := beq_iff_eq.mpr c18
    have c18b1 : ((t260.length : Int) != 1) = false := bne_eq_false_iff_eq.mpr c18
    clear c18
    by_cases c19 : 0 < (t260.length : Int)
    ·
     rw [if_pos c19] at H
     have c19b0 : decide (0 < (t260.length : Int)) = true := decide_eq_true c19
     have c19b1 : decide (0 < t260.length) = true := decide_eq_true (by omega)
     clear c19
     replace H := Option.bind_eq_some_iff.mp H
     obtain ⟨⟨t268, t271⟩, A200, H⟩ := H
     replace H : ((nat_Of.f k (IntKind.u64.wrap (t271))).bind fun t272 => (some (t268, t272, 0))) = some (r1, r2, r3) := H
     have A20 := zA A200
     clear A200
     replace H := Option.bind_eq_some_iff.mp H
     obtain ⟨t272, A210, H⟩ := H
     replace H : (some (t268, t272, 0)) = some (r1, r2, r3) := H
     have A21 := zA A210
     clear A210
     simp only [Option.some.injEq, Prod.mk.injEq] at H
     obtain ⟨rfl, rfl, rfl⟩ := H
     go_enter Try.func98, Try.ntmps98
     go_wp2_with (first | ((with_reducible refine gate_callee (f := 100) rfl ?_); refine goesL_ (some 12) rfl rfl Try.func100 (by kernel_rfl) rfl #[.slice A0 l0.length c0] rfl (by (try simp only [List.map_toArray, List.map_cons, List.map_nil]); first | done | rfl | (simp only [List.length_drop, List.length_take]; rfl)) ?_; (with_reducible refine (nat_short.calls k (fun k_ => ((P0_ k_ ∨ P1_ k_) ∨ w.heap.size ≤ k_)) _ _ l0 t257 _ ?side1 A3.out).mono ?_); (case side1 => exact HO0.out); rintro e w22 ⟨v258, rfl, ho0, hb⟩; refine ⟨_, rfl, ?_⟩; replace HO0 := zA (Kd.V_below (by exact zV HO0) hb); replace HO1 := zA (Kd.V_below (by exact zV HO1) hb); have HO259 := zA (Kd.V_lower (Kd.V_mono (ok' := fun k_ => ((P0_ k_ ∨ P1_ k_) ∨ w.heap.size ≤ k_)) ho0 (fun k_ hk_ => Or.elim hk_ (fun hs_ => hs_) (fun hn_ => (.inr (Nat.le_trans (below_size (by exact zB HB)) hn_))))) (below_size (by exact zB HB))); replace HB := zA (below_step (by exact zB HB) hb); (try clear hb ho0)) | ((with_reducible refine gate_callee (f := 100) rfl ?_); refine goesL_ (some 14) rfl rfl Try.func100 (by kernel_rfl) rfl #[.slice A1 l1.length c1] rfl (by (try simp only [List.map_toArray, List.map_cons, List.map_nil]); first | done | rfl | (simp only [List.length_drop, List.length_take]; rfl)) ?_; (with_reducible refine (nat_short.calls k (fun k_ => ((P0_ k_ ∨ P1_ k_) ∨ w.heap.size ≤ k_)) _ _ l1 t260 _ ?side1 A4.out).mono ?_); (case side1 => exact HO1.out); rintro e w23 ⟨v261, rfl, ho0, hb⟩; refine ⟨_, rfl, ?_⟩; replace HO0 := zA (Kd.V_below (by exact zV HO0) hb); replace HO1 := zA (Kd.V_below (by exact zV HO1) hb); replace HO259 := zA (Kd.V_below (by exact zV HO259) hb); have HO262 := zA (Kd.V_lower (Kd.V_mono (ok' := fun k_ => ((P0_ k_ ∨ P1_ k_) ∨ w.heap.size ≤ k_)) ho0 (fun k_ hk_ => Or.elim hk_ (fun hs_ => hs_) (fun hn_ => (.inr (Nat.le_trans (below_size (by exact zB HB)) hn_))))) (below_size (by exact zB HB))); replace HB := zA (below_step (by exact zB HB) hb); (try clear hb ho0); obtain ⟨Ao24, co24, eo24⟩ := Kd.V_slice HO262.out; subst eo24; obtain ⟨Ao25, co25, eo25⟩ := Kd.V_slice HO259.out; subst eo25) | ((with_reducible refine gate_callee (f := 95) rfl ?_); refine goesL_ (some 22) rfl rfl Try.func95 (by kernel_rfl) rfl #[.slice Ao25 t257.length co25, .slice Ao24 t260.length co24] rfl (by (try simp only [List.map_toArray, List.map_cons, List.map_nil]); first | done | rfl | (simp only [List.length_drop, List.length_take]; rfl)) ?_; (with_reducible refine (nat_Cmp.calls k _ _ t257 _ _ t260 t263 _ ?side1 ?side2 ?side3 ?side4 A9.out).mono ?_); (case side1 => exact zC ((Kd.V_reads' HO259.out).2.2)); (case side2 => exact (Kd.V_reads' HO259.out).2.1); (case side3 => exact zC ((Kd.V_reads' HO262.out).2.2)); (case side4 => exact (Kd.V_reads' HO262.out).2.1); rintro e w26 ⟨rfl, hb⟩; refine ⟨_, rfl, ?_⟩; replace HO0 := zA (Kd.V_below (by exact zV HO0) hb); replace HO1 := zA (Kd.V_below (by exact zV HO1) hb); replace HO259 := zA (Kd.V_below (by exact zV HO259) hb); replace HO262 := zA (Kd.V_below (by exact zV HO262) hb); replace HB := zA (below_step (by exact zB HB) hb); (try clear hb); have p267 : 0 ≤ (0 : Int) := (by omega); have q267 : 0 < (t260.length : Int) := of_decide_eq_true (by assumption); obtain ⟨ad267, e267, hx267_0⟩ := Kd.at_int (Kd.V_reads' HO262.out).2.2 0 p267 q267; cases e267; have qi267 : (0 < t260.length) = True := eq_true (by omega); (try rw [show ((0 : Int)).toNat = 0 from rfl] at hx267_0); (try rw [Addr.add_zero'] at hx267_0); replace p267 := eq_true p267; replace q267 := eq_true q267) | ((with_reducible refine gate_callee (f := 104) rfl ?_); refine goesL_ (some 35) rfl rfl Try.func104 (by kernel_rfl) rfl #[.slice Ao25 t257.length co25, .int .u32 (rd t260 0)] rfl (by (try simp only [List.map_toArray, List.map_cons, List.map_nil]); first | done | rfl | (simp only [List.length_drop, List.length_take]; rfl)) ?_; (with_reducible refine (nat_digit.calls k _ _ t257 (rd t260 0) t268 t271 _ ?side1 ?side2 A20.out).mono ?_); (case side1 => exact zC ((Kd.V_reads' HO259.out).2.2)); (case side2 => exact (Kd.V_reads' HO259.out).2.1); rintro e w27 ⟨v269, rfl, ho0, hb⟩; refine ⟨_, rfl, ?_⟩; replace HO0 := zA (Kd.V_below (by exact zV HO0) hb); replace HO1 := zA (Kd.V_below (by exact zV HO1) hb); replace HO259 := zA (Kd.V_below (by exact zV HO259) hb); replace HO262 := zA (Kd.V_below (by exact zV HO262) hb); have HO270 := zA (Kd.V_lower (Kd.V_mono (ok' := fun k_ => ((P0_ k_ ∨ P1_ k_) ∨ w.heap.size ≤ k_)) ho0 (fun k_ hk_ => (.inr (Nat.le_trans (below_size (by exact zB HB)) hk_)))) (below_size (by exact zB HB))); replace HB := zA (below_step (by exact zB HB) hb); (try clear hb ho0)) | ((with_reducible refine gate_callee (f := 89) rfl ?_); refine goesL_ (some 41) rfl rfl Try.func89 (by kernel_rfl) rfl #[.int .u64 (IntKind.u64.wrap (t271))] rfl (by (try simp only [List.map_toArray, List.map_cons, List.map_nil]); first | done | rfl | (simp only [List.length_drop, List.length_take]; rfl)) ?_; (with_reducible refine (nat_Of.calls k (IntKind.u64.wrap (t271)) t272 _ A21.out).mono ?_); rintro e w28 ⟨v273, rfl, ho0, hb⟩; refine ⟨_, rfl, ?_⟩; replace HO0 := zA (Kd.V_elder' (by exact zV HO0) (Kd.R_base ho0) hb); replace HO1 := zA (Kd.V_elder' (by exact zV HO1) (Kd.R_base ho0) hb); replace HO259 := zA (Kd.V_elder' (by exact zV HO259) (Kd.R_base ho0) hb); replace HO262 := zA (Kd.V_elder' (by exact zV HO262) (Kd.R_base ho0) hb); replace HO270 := zA (Kd.V_elder' (by exact zV HO270) (Kd.R_base ho0) hb); have HO274 := zA (Kd.R_lower (Kd.R_newM (M := fun k_ => (w.heap.size ≤ k_)) ho0 (below_size (by exact zB HB)) (fun k_ h_ => h_)) (below_size (by exact zB HB))); replace HB := zA (below_step (by exact zB HB) hb); (try clear hb ho0)))
     go_ret3
     exact ⟨_, _, by first | rfl | (simp [errW_none, errW_some] <;> rfl) | (simp [*, errW_none, errW_some] <;> rfl), by exact zV HO270, by (with_reducible repeat (first | apply Kd.R_alloc | apply Kd.R_drewN | apply Kd.R_drew)); exact Kd.R_mono HO274.out (fun _ hk => hk.1), by exact zB HB⟩
    ·
     rw [if_neg c19] at H
     exact absurd H (by simp)
   ·
    rw [if_neg c18] at H
    have c18b0 : ((t260.length : Int) == 1) = false := beq_eq_false_iff_ne.mpr c18
    have c18b1 : ((t260.length : Int) != 1) = true := bne_iff_ne.mpr c18
    replace H := Option.bind_eq_some_iff.mp H
    obtain ⟨⟨t275, t276⟩, A290, H⟩ := H
    replace H : ((nat_Trim.f k t275).bind fun t281 => ((nat_Trim.f k t276).bind fun t284 => (some (t281, t284, 0)))) = some (r1, r2, r3) := H
    have A29 := zA A290
    clear A290
    replace H := Option.bind_eq_some_iff.mp H
    obtain ⟨t281, A300, H⟩ := H
    replace H : ((nat_Trim.f k t276).bind fun t284 => (some (t281, t284, 0))) = some (r1, r2, r3) := H
    have A30 := zA A300
    clear A300
    replace H := Option.bind_eq_some_iff.mp H
    obtain ⟨t284, A310, H⟩ := H
    replace H : (some (t281, t284, 0)) = some (r1, r2, r3) := H
    have A31 := zA A310
    clear A310
    simp only [Option.some.injEq, Prod.mk.injEq] at H
    obtain ⟨rfl, rfl, rfl⟩ := H
    go_enter Try.func98, Try.ntmps98
    go_wp2_with (first | ((with_reducible refine gate_callee (f := 100) rfl ?_); refine goesL_ (some 12) rfl rfl Try.func100 (by kernel_rfl) rfl #[.slice A0 l0.length c0] rfl (by (try simp only [List.map_toArray, List.map_cons, List.map_nil]); first | done | rfl | (simp only [List.length_drop, List.length_take]; rfl)) ?_; (with_reducible refine (nat_short.calls k (fun k_ => ((P0_ k_ ∨ P1_ k_) ∨ w.heap.size ≤ k_)) _ _ l0 t257 _ ?side1 A3.out).mono ?_); (case side1 => exact HO0.out); rintro e w32 ⟨v258, rfl, ho0, hb⟩; refine ⟨_, rfl, ?_⟩; replace HO0 := zA (Kd.V_below (by exact zV HO0) hb); replace HO1 := zA (Kd.V_below (by exact zV HO1) hb); have HO259 := zA (Kd.V_lower (Kd.V_mono (ok' := fun k_ => ((P0_ k_ ∨ P1_ k_) ∨ w.heap.size ≤ k_)) ho0 (fun k_ hk_ => Or.elim hk_ (fun hs_ => hs_) (fun hn_ => (.inr (Nat.le_trans (below_size (by exact zB HB)) hn_))))) (below_size (by exact zB HB))); replace HB := zA (below_step (by exact zB HB) hb); (try clear hb ho0)) | ((with_reducible refine gate_callee (f := 100) rfl ?_); refine goesL_ (some 14) rfl rfl Try.func100 (by kernel_rfl) rfl #[.slice A1 l1.length c1] rfl (by (try simp only [List.map_toArray, List.map_cons, List.map_nil]); first | done | rfl | (simp only [List.length_drop, List.length_take]; rfl)) ?_; (with_reducible refine (nat_short.calls k (fun k_ => ((P0_ k_ ∨ P1_ k_) ∨ w.heap.size ≤ k_)) _ _ l1 t260 _ ?side1 A4.out).mono ?_); (case side1 => exact HO1.out); rintro e w33 ⟨v261, rfl, ho0, hb⟩; refine ⟨_, rfl, ?_⟩; replace HO0 := zA (Kd.V_below (by exact zV HO0) hb); replace HO1 := zA (Kd.V_below (by exact zV HO1) hb); replace HO259 := zA (Kd.V_below (by exact zV HO259) hb); have HO262 := zA (Kd.V_lower (Kd.V_mono (ok' := fun k_ => ((P0_ k_ ∨ P1_ k_) ∨ w.heap.size ≤ k_)) ho0 (fun k_ hk_ => Or.elim hk_ (fun hs_ => hs_) (fun hn_ => (.inr (Nat.le_trans (below_size (by exact zB HB)) hn_))))) (below_size (by exact zB HB))); replace HB := zA (below_step (by exact zB HB) hb); (try clear hb ho0); obtain ⟨Ao34, co34, eo34⟩ := Kd.V_slice HO262.out; subst eo34; obtain ⟨Ao35, co35, eo35⟩ := Kd.V_slice HO259.out; subst eo35) | ((with_reducible refine gate_callee (f := 95) rfl ?_); refine goesL_ (some 22) rfl rfl Try.func95 (by kernel_rfl) rfl #[.slice Ao35 t257.length co35, .slice Ao34 t260.length co34] rfl (by (try simp only [List.map_toArray, List.map_cons, List.map_nil]); first | done | rfl | (simp only [List.length_drop, List.length_take]; rfl)) ?_; (with_reducible refine (nat_Cmp.calls k _ _ t257 _ _ t260 t263 _ ?side1 ?side2 ?side3 ?side4 A9.out).mono ?_); (case side1 => exact zC ((Kd.V_reads' HO259.out).2.2)); (case side2 => exact (Kd.V_reads' HO259.out).2.1); (case side3 => exact zC ((Kd.V_reads' HO262.out).2.2)); (case side4 => exact (Kd.V_reads' HO262.out).2.1); rintro e w36 ⟨rfl, hb⟩; refine ⟨_, rfl, ?_⟩; replace HO0 := zA (Kd.V_below (by exact zV HO0) hb); replace HO1 := zA (Kd.V_below (by exact zV HO1) hb); replace HO259 := zA (Kd.V_below (by exact zV HO259) hb); replace HO262 := zA (Kd.V_below (by exact zV HO262) hb); replace HB := zA (below_step (by exact zB HB) hb); (try clear hb)) | ((with_reducible refine gate_callee (f := 107) rfl ?_); refine goesL_ (some 45) rfl rfl Try.func107 (by kernel_rfl) rfl #[.slice Ao35 t257.length co35, .slice Ao34 t260.length co34] rfl (by (try simp only [List.map_toArray, List.map_cons, List.map_nil]); first | done | rfl | (simp only [List.length_drop, List.length_take]; rfl)) ?_; (with_reducible refine (nat_long.calls k _ _ t257 _ _ t260 t275 t276 _ ?side1 ?side2 ?side3 ?side4 A29.out).mono ?_); (case side1 => exact zC ((Kd.V_reads' HO259.out).2.2)); (case side2 => exact (Kd.V_reads' HO259.out).2.1); (case side3 => exact zC ((Kd.V_reads' HO262.out).2.2)); (case side4 => exact (Kd.V_reads' HO262.out).2.1); rintro e w37 ⟨v277, v279, rfl, ho0, ho1, hb⟩; refine ⟨_, rfl, ?_⟩; replace HO0 := zA (Kd.V_mono (Kd.V_told (Kd.V_told (Kd.V_old (by exact zV HO0) hb) (Kd.R_base ho0)) (Kd.R_base ho1)) (fun _ h_ => h_.1)); replace HO1 := zA (Kd.V_mono (Kd.V_told (Kd.V_told (Kd.V_old (by exact zV HO1) hb) (Kd.R_base ho0)) (Kd.R_base ho1)) (fun _ h_ => h_.1)); replace HO259 := zA (Kd.V_mono (Kd.V_told (Kd.V_told (Kd.V_old (by exact zV HO259) hb) (Kd.R_base ho0)) (Kd.R_base ho1)) (fun _ h_ => h_.1)); replace HO262 := zA (Kd.V_mono (Kd.V_told (Kd.V_told (Kd.V_old (by exact zV HO262) hb) (Kd.R_base ho0)) (Kd.R_base ho1)) (fun _ h_ => h_.1)); have HO278 := zA (Kd.R_lower (Kd.R_newM (M := fun k_ => (w.heap.size ≤ k_)) ho0 (below_size (by exact zB HB)) (fun k_ h_ => h_)) (below_size (by exact zB HB))); have HO280 := zA (Kd.R_lower (Kd.R_newM (M := fun k_ => (w.heap.size ≤ k_)) ho1 (below_size (by exact zB HB)) (fun k_ h_ => h_)) (below_size (by exact zB HB))); replace HB := zA (below_step (by exact zB HB) hb); (try clear hb ho0 ho1); obtain ⟨Ao38, co38, eo38⟩ := Kd.R_slice HO278.out; subst eo38) | ((with_reducible refine gate_callee (f := 101) rfl ?_); refine goesL_ (some 49) rfl rfl Try.func101 (by kernel_rfl) rfl #[.slice Ao38 t275.length co38] rfl (by (try simp only [List.map_toArray, List.map_cons, List.map_nil]); first | done | rfl | (simp only [List.length_drop, List.length_take]; rfl)) ?_; (with_reducible refine (nat_Trim.calls k _ _ t275 t281 _ ?side1 ?side2 A30.out).mono ?_); (case side1 => exact zC ((Kd.R_reads' HO278.out).2.2)); (case side2 => exact (Kd.R_reads' HO278.out).2.1); rintro e w39 ⟨v282, rfl, ho0, hb⟩; refine ⟨_, rfl, ?_⟩; replace HO0 := zA (Kd.V_elder' (by exact zV HO0) (Kd.R_base ho0) hb); replace HO1 := zA (Kd.V_elder' (by exact zV HO1) (Kd.R_base ho0) hb); replace HO259 := zA (Kd.V_elder' (by exact zV HO259) (Kd.R_base ho0) hb); replace HO262 := zA (Kd.V_elder' (by exact zV HO262) (Kd.R_base ho0) hb); have HO283 := zA (Kd.R_lower (Kd.R_new' (Kd.R_new' (Kd.R_newM (M := fun k_ => (w.heap.size ≤ k_)) ho0 (below_size (by exact zB HB)) (fun k_ h_ => h_)) (Kd.R_lt (by exact zR HO278))) (Kd.R_lt (by exact zR HO280))) (below_size (by exact zB HB))); replace HO278 := zA (Kd.R_elder' (by exact zR HO278) (Kd.R_base ho0) hb); replace HO280 := zA (Kd.R_elder' (by exact zR HO280) (Kd.R_base ho0) hb); replace HB := zA (below_step (by exact zB HB) hb); (try clear hb ho0); obtain ⟨Ao40, co40, eo40⟩ := Kd.R_slice HO280.out; subst eo40) | ((with_reducible refine gate_callee (f := 101) rfl ?_); refine goesL_ (some 51) rfl rfl Try.func101 (by kernel_rfl) rfl #[.slice Ao40 t276.length co40] rfl (by (try simp only [List.map_toArray, List.map_cons, List.map_nil]); first | done | rfl | (simp only [List.length_drop, List.length_take]; rfl)) ?_; (with_reducible refine (nat_Trim.calls k _ _ t276 t284 _ ?side1 ?side2 A31.out).mono ?_); (case side1 => exact zC ((Kd.R_reads' HO280.out).2.2)); (case side2 => exact (Kd.R_reads' HO280.out).2.1); rintro e w41 ⟨v285, rfl, ho0, hb⟩; refine ⟨_, rfl, ?_⟩; replace HO0 := zA (Kd.V_elder' (by exact zV HO0) (Kd.R_base ho0) hb); replace HO1 := zA (Kd.V_elder' (by exact zV HO1) (Kd.R_base ho0) hb); replace HO259 := zA (Kd.V_elder' (by exact zV HO259) (Kd.R_base ho0) hb); replace HO262 := zA (Kd.V_elder' (by exact zV HO262) (Kd.R_base ho0) hb); have HO286 := zA (Kd.R_lower (Kd.R_new' (Kd.R_new' (Kd.R_new' (Kd.R_newM (M := fun k_ => (w.heap.size ≤ k_)) ho0 (below_size (by exact zB HB)) (fun k_ h_ => h_)) (Kd.R_lt (by exact zR HO278))) (Kd.R_lt (by exact zR HO280))) (Kd.R_lt (by exact zR HO283))) (below_size (by exact zB HB))); replace HO278 := zA (Kd.R_elder' (by exact zR HO278) (Kd.R_base ho0) hb); replace HO280 := zA (Kd.R_elder' (by exact zR HO280) (Kd.R_base ho0) hb); replace HO283 := zA (Kd.R_elder' (by exact zR HO283) (Kd.R_base ho0) hb); replace HB := zA (below_step (by exact zB HB) hb); (try clear hb ho0)))
    go_ret3
    exact ⟨_, _, by first | rfl | (simp [errW_none, errW_some] <;> rfl) | (simp [*, errW_none, errW_some] <;> rfl), Kd.V_mono (ok := fun k_ => w.heap.size ≤ k_ ∧ some k_ ≠ (_ : Value).ownBlock) (Kd.R_V (by (with_reducible repeat (first | apply Kd.R_alloc | apply Kd.R_drewN | apply Kd.R_drew)); exact Kd.R_mono HO283.out (fun _ hk => ⟨hk.1.1.1.1, hk.2⟩))) (fun k_ hk => by first | exact ⟨(.inr (hk.1)), hk.2⟩ | exact (.inr (hk.1))), by (with_reducible repeat (first | apply Kd.R_alloc | apply Kd.R_drewN | apply Kd.R_drew)); exact Kd.R_mono HO286.out (fun _ hk => hk.1.1.1.1), by exact zB HB⟩
end Go.Proofs.Ytpjpbhjpobdenaa.PNat
