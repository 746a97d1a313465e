/- A part of the print of this row, cut down to what the row uses. -/
import Derived.Test.YtjignpnnmfdedaaQChannelPatternsx0
import Derived.Test.YtjignpnnmfdedaaQChannelPatternsx1
import Derived.Test.YtjignpnnmfdedaaQChannelPatternsWSq
-- printed by a scratch copy of the print, turned (wip/tools/turn_print.py)
namespace Go.Proofs.Ytjignpnnmfdedaa.PChannelPatterns
open Go.RowKit Go.Proofs.YtjignpnnmfdedaaW.PrintWords Go.Proofs.YtjignpnnmfdedaaW.PrintLast Go.Proofs.YtjignpnnmfdedaaW.PrintMore
attribute [local go_sem] max2_int min2_int max_two min_two max_three min_three max_four min_four   -- for this text's walks alone
set_option linter.unusedVariables false
set_option linter.unusedSimpArgs false
/-! ### nat_Pow: function 97 -/
mutual
def nat_Pow.j0 : Nat → List Int → Int → Int → Bool → Option (List Int × Int)
 | 0, _, _, _, _ => none
 | k + 1, x0, x1, x6, x13 => if x13 = true then (some ((([1] : List Int)), 0)) else (if x6 = 0 then (some (([] : List Int), 0)) else (if x1 > 131072 then (some (([] : List Int), 8)) else (if (wrap64 ((wrap64 (x6 - 1)) * x1)) ≥ 131072 then (some (([] : List Int), 8)) else ((nat_short.f k x0).bind fun t145 => (nat_Pow.l0 k x1 (([1] : List Int)) t145)))))
def nat_Pow.l0 : Nat → Int → List Int → List Int → Option (List Int × Int)
 | 0, _, _, _ => none
 | k + 1, x1, x7, x8 => if (Go.bits .and .i64 x1 1) = 1 then ((nat_times.f k x7 x8).bind fun t148 => (if (x1 / 2) = 0 then (if (t148.length : Int) > 4096 then (some (([] : List Int), 8)) else ((nat_Trim.f k t148).bind fun t151 => (some (t151, 0)))) else ((nat_times.f k x8 x8).bind fun t154 => (nat_Pow.l0 k (x1 / 2) t148 t154)))) else (if (x1 / 2) = 0 then (if (x7.length : Int) > 4096 then (some (([] : List Int), 8)) else ((nat_Trim.f k x7).bind fun t157 => (some (t157, 0)))) else ((nat_times.f k x8 x8).bind fun t160 => (nat_Pow.l0 k (x1 / 2) x7 t160)))
end
def nat_Pow.f (k : Nat) (l0 : List Int) (a1 : Int) : Option (List Int × Int) := if a1 < 0 then (some (([] : List Int), 6)) else ((nat_Bits.f k l0).bind fun t138 => (if a1 = 0 then (nat_Pow.j0 k l0 a1 t138 true) else (nat_Pow.j0 k l0 a1 t138 (t138 == 1))))
set_option maxHeartbeats 8000000 in
set_option maxRecDepth 100000 in
theorem nat_Pow.calls (k : Nat) (A0 : Option Addr) (c0 : Nat) (l0 : List Int) (a1 : Int) (r1 : List Int) (r2 : Int) (w : World) (hr0 : Kd.C (Kd.int .u32) w A0 l0.length l0) (hc0 : l0.length ≤ c0) (h : nat_Pow.f k l0 a1 = some (r1, r2)) :
  Calls Try.prog 97 #[.slice A0 l0.length c0, .int .i64 a1] w fun e w' => ∃ v0_ : Value, e = .returned (.tuple #[v0_, .int .i64 r2]) ∧ Kd.R (Kd.int .u32) 79 w' w.heap.size (fun _ => True) v0_ r1 ∧ Below w.heap.size w w' := by
 have HR0 := zA hr0
 have HC0 := zA hc0
 clear hr0 hc0
 have HB := zA (Below.refl w.heap.size w)
 have H : (if a1 < 0 then (some (([] : List Int), 6)) else ((nat_Bits.f k l0).bind fun t138 => (if a1 = 0 then (nat_Pow.j0 k l0 a1 t138 true) else (nat_Pow.j0 k l0 a1 t138 (t138 == 1))))) = some (r1, r2) := h
 clear h
 by_cases c3 : a1 < 0
 ·
  rw [if_pos c3] at H
  have c3b0 : decide (a1 < 0) = true := decide_eq_true c3
  clear c3
  simp only [Option.some.injEq, Prod.mk.injEq] at H
  obtain ⟨rfl, rfl⟩ := H
  go_enter Try.func97, Try.ntmps97
  go_wp2
  go_ret2
  exact ⟨_, by first | rfl | (simp [errW_none, errW_some] <;> rfl) | (simp [*, errW_none, errW_some] <;> rfl), by first | exact Kd.R_nil _ _ _ _ _ | exact Kd.N_nil _ _ _ _ _ | exact Kd.V_nil _ _ _ _ _ | exact Kd.Q_nil _ _ _ _ _ | exact Kd.S_nil _ _ _ _ _, by exact zB HB⟩
 ·
  rw [if_neg c3] at H
  have c3b0 : decide (a1 < 0) = false := decide_eq_false c3
  clear c3
  replace H := Option.bind_eq_some_iff.mp H
  obtain ⟨t138, A40, H⟩ := H
  replace H : (if a1 = 0 then (nat_Pow.j0 k l0 a1 t138 true) else (nat_Pow.j0 k l0 a1 t138 (t138 == 1))) = some (r1, r2) := H
  have A4 := zA A40
  clear A40
  have HC5 := zA H
  clear H
  go_enter Try.func97, Try.ntmps97
  go_upto_region 4 with (first | ((with_reducible refine gate_callee (f := 117) rfl ?_); refine goesL_ (some 12) rfl rfl Try.func117 (by kernel_rfl) rfl #[.slice A0 l0.length c0] rfl (by (try simp only [List.map_toArray, List.map_cons, List.map_nil]); first | done | rfl | (simp only [List.length_drop, List.length_take]; rfl)) ?_; (with_reducible refine (nat_Bits.calls k _ _ l0 t138 _ ?side1 ?side2 A4.out).mono ?_); (case side1 => exact zC (HR0.out)); (case side2 => exact HC0.out); rintro e w6 ⟨rfl, hb⟩; refine ⟨_, rfl, ?_⟩; replace HB := zA (below_step (by exact zB HB) hb); (try clear hb)))
  (try simp only [Act.put, List.setIfInBounds_toArray, List.set_cons_zero, List.set_cons_succ])
  go_cut [13] (fun v13 wc => ∃ (kq : Nat) (x13_4 : Bool), v13 = .bool x13_4 ∧ Aside0 (nat_Pow.j0 kq l0 a1 t138 x13_4 = some (r1, r2)) ∧ Aside0 (kq ≤ k) ∧ Aside0 (Below w.heap.size w wc))
  case first =>
   have H := HC5.out
   clear HC5
   by_cases c7 : a1 = 0
   ·
    rw [if_pos c7] at H
    have c7b0 : (a1 == 0) = true := beq_iff_eq.mpr c7
    have c7b1 : (a1 != 0) = false := bne_eq_false_iff_eq.mpr c7
    clear c7
    (first | rw [c7b0] | (simp only [i64_w, i32_w]; rw [c7b0]) | rw [c7b1] | rw [c7b2] | skip)
    have H' := zA H
    clear H
    go_wp2
    go_meet
    case rel => exact ⟨_, (true), (by first | rfl | (simp; done) | (simp [*]; done)), H', ⟨by first | omega | exact Nat.le_refl _⟩, ⟨by exact zB HB⟩⟩
   ·
    rw [if_neg c7] at H
    have c7b0 : (a1 == 0) = false := beq_eq_false_iff_ne.mpr c7
    have c7b1 : (a1 != 0) = true := bne_iff_ne.mpr c7
    (first | rw [c7b0] | (simp only [i64_w, i32_w]; rw [c7b0]) | rw [c7b1] | rw [c7b2] | skip)
    have H' := zA H
    clear H
    go_wp2
    go_meet
    case rel => exact ⟨_, ((t138 == 1)), (by first | rfl | (simp; done) | (simp [*]; done)), H', ⟨by first | omega | exact Nat.le_refl _⟩, ⟨by exact zB HB⟩⟩
  case rest =>
   clear HC5
   try clear c1
   try clear p2
   try clear c3
   try clear c3b0
   try clear c7
   try clear c7b0
   try clear c7b1
   obtain ⟨kq, x13_4, rfl, HA, HJ4, HB⟩ := hcut
   cases kq with
   | zero => exact absurd HA.out (by simp [nat_Pow.j0])
   | succ kj4 =>
    have H := HA.out
    clear HA
    simp only [nat_Pow.j0] at H
    by_cases c8 : x13_4 = true
    ·
     subst c8
     have H1 : (some ((([1] : List Int)), 0)) = some (r1, r2) := by rw [if_pos rfl] at H; exact H
     clear H
     have H := H1
     clear H1
     obtain ⟨y139, hy139⟩ : ∃ y_ : List Int, y_ = (([1] : List Int)) := ⟨_, rfl⟩
     replace H : (some (y139, 0)) = some (r1, r2) := by first | (rw [hy139]; with_reducible exact H) | (have H := (Option.bind_some _ _).symm.trans H; first | (rw [hy139]; with_reducible exact H) | with_reducible exact H) | (rw [hy139]; exact H) | exact H
     have Ny139 := zA hy139
     clear hy139
     simp only [Option.some.injEq, Prod.mk.injEq] at H
     obtain ⟨rfl, rfl⟩ := H
     go_wp2_with (first | ((with_reducible refine gate_dst (N := 20) rfl ?_); refine Kd.R_lit (Kd.int .u32) _ 79 ?hg (N := 20) ?hd (xs := ([1] : List Int)) (inner := [.int .u32 1]) (ok := fun _ => True) (okp := fun _ => True) ?hr ?hp (fun _ hk => hk) trivial (Below.refl _ _) (Nat.le_refl _) (by simp) ?_; (case hd => rfl); (case hg => rfl); (case hr => first | (go_simp; done) | (go_simp; rfl)); (case hp => exact (Reps.one (show Kd.M (Kd.int .u32) _ _ _ 1 [.int .u32 1] from rfl) (Reps.none _ _))); intro v140 w9 ho10 hb hg_ hnew_; clear hg_ hnew_; (first | rw [← Ny139.out] at ho10 | (simp only [Int.reduceToNat] at ho10; rw [← Ny139.out] at ho10)); have HO141 := zA (Kd.R_lower ho10 (below_size (by exact zB HB))); replace HB := zA (below_step (by exact zB HB) hb); clear hb ho10))
     go_ret2
     exact ⟨_, by first | rfl | (simp [errW_none, errW_some] <;> rfl) | (simp [*, errW_none, errW_some] <;> rfl), by exact zR HO141, by exact zB HB⟩
    ·
     replace c8 := Bool.eq_false_iff.mpr c8
     subst c8
     have H1 : (if t138 = 0 then (some (([] : List Int), 0)) else (if a1 > 131072 then (some (([] : List Int), 8)) else (if (wrap64 ((wrap64 (t138 - 1)) * a1)) ≥ 131072 then (some (([] : List Int), 8)) else ((nat_short.f kj4 l0).bind fun t145 => (nat_Pow.l0 kj4 a1 (([1] : List Int)) t145))))) = some (r1, r2) := by rw [if_neg (show ¬ (false = true) by decide)] at H; exact H
     clear H
     have H := H1
     clear H1
     by_cases c11 : t138 = 0
     ·
      rw [if_pos c11] at H
      have c11b0 : (t138 == 0) = true := beq_iff_eq.mpr c11
      have c11b1 : (t138 != 0) = false := bne_eq_false_iff_eq.mpr c11
      clear c11
      simp only [Option.some.injEq, Prod.mk.injEq] at H
      obtain ⟨rfl, rfl⟩ := H
      go_wp2
      go_ret2
      exact ⟨_, by first | rfl | (simp [errW_none, errW_some] <;> rfl) | (simp [*, errW_none, errW_some] <;> rfl), by first | exact Kd.R_nil _ _ _ _ _ | exact Kd.N_nil _ _ _ _ _ | exact Kd.V_nil _ _ _ _ _ | exact Kd.Q_nil _ _ _ _ _ | exact Kd.S_nil _ _ _ _ _, by exact zB HB⟩
     ·
      rw [if_neg c11] at H
      have c11b0 : (t138 == 0) = false := beq_eq_false_iff_ne.mpr c11
      have c11b1 : (t138 != 0) = true := bne_iff_ne.mpr c11
      by_cases c12 : a1 > 131072
      ·
       rw [if_pos c12] at H
       have c12b0 : decide (131072 < a1) = true := decide_eq_true c12
       clear c12
       simp only [Option.some.injEq, Prod.mk.injEq] at H
       obtain ⟨rfl, rfl⟩ := H
       go_wp2
       go_ret2
       exact ⟨_, by first | rfl | (simp [errW_none, errW_some] <;> rfl) | (simp [*, errW_none, errW_some] <;> rfl), by first | exact Kd.R_nil _ _ _ _ _ | exact Kd.N_nil _ _ _ _ _ | exact Kd.V_nil _ _ _ _ _ | exact Kd.Q_nil _ _ _ _ _ | exact Kd.S_nil _ _ _ _ _, by exact zB HB⟩
      ·
       rw [if_neg c12] at H
       have c12b0 : decide (131072 < a1) = false := decide_eq_false c12
       clear c12
       by_cases c13 : (wrap64 ((wrap64 (t138 - 1)) * a1)) ≥ 131072
       ·
        rw [if_pos c13] at H
        have c13b0 : decide (131072 ≤ (wrap64 ((wrap64 (t138 - 1)) * a1))) = true := decide_eq_true c13
        clear c13
        simp only [Option.some.injEq, Prod.mk.injEq] at H
        obtain ⟨rfl, rfl⟩ := H
        go_wp2
        go_ret2
        exact ⟨_, by first | rfl | (simp [errW_none, errW_some] <;> rfl) | (simp [*, errW_none, errW_some] <;> rfl), by first | exact Kd.R_nil _ _ _ _ _ | exact Kd.N_nil _ _ _ _ _ | exact Kd.V_nil _ _ _ _ _ | exact Kd.Q_nil _ _ _ _ _ | exact Kd.S_nil _ _ _ _ _, by exact zB HB⟩
       ·
        rw [if_neg c13] at H
        have c13b0 : decide (131072 ≤ (wrap64 ((wrap64 (t138 - 1)) * a1))) = false := decide_eq_false c13
        clear c13
        obtain ⟨y142, hy142⟩ : ∃ y_ : List Int, y_ = (([1] : List Int)) := ⟨_, rfl⟩
        replace H : ((nat_short.f kj4 l0).bind fun t145 => (nat_Pow.l0 kj4 a1 y142 t145)) = some (r1, r2) := by first | (rw [hy142]; with_reducible exact H) | (have H := (Option.bind_some _ _).symm.trans H; first | (rw [hy142]; with_reducible exact H) | with_reducible exact H) | (rw [hy142]; exact H) | exact H
        have Ny142 := zA hy142
        clear hy142
        replace H := Option.bind_eq_some_iff.mp H
        obtain ⟨t145, A140, H⟩ := H
        replace H : (nat_Pow.l0 kj4 a1 y142 t145) = some (r1, r2) := H
        have A14 := zA A140
        clear A140
        have H' := zA H
        clear H
        go_wp2_with (first | ((with_reducible refine gate_dst (N := 34) rfl ?_); refine Kd.R_lit (Kd.int .u32) _ 79 ?hg (N := 34) ?hd (xs := ([1] : List Int)) (inner := [.int .u32 1]) (ok := fun _ => True) (okp := fun _ => True) ?hr ?hp (fun _ hk => hk) trivial (Below.refl _ _) (Nat.le_refl _) (by simp) ?_; (case hd => rfl); (case hg => rfl); (case hr => first | (go_simp; done) | (go_simp; rfl)); (case hp => exact (Reps.one (show Kd.M (Kd.int .u32) _ _ _ 1 [.int .u32 1] from rfl) (Reps.none _ _))); intro v143 w15 ho16 hb hg_ hnew_; clear hg_ hnew_; (first | rw [← Ny142.out] at ho16 | (simp only [Int.reduceToNat] at ho16; rw [← Ny142.out] at ho16)); have HO144 := zA (Kd.R_lower ho16 (below_size (by exact zB HB))); replace HB := zA (below_step (by exact zB HB) hb); clear hb ho16) | ((with_reducible refine gate_callee (f := 104) rfl ?_); refine goesL_ (some 36) rfl rfl Try.func104 (by kernel_rfl) rfl #[.slice A0 l0.length c0] rfl (by (try simp only [List.map_toArray, List.map_cons, List.map_nil]); first | done | rfl | (simp only [List.length_drop, List.length_take]; rfl)) ?_; (with_reducible refine (nat_short.calls kj4 (fun k_ => k_ < w.heap.size) _ _ l0 t145 _ ?side1 A14.out).mono ?_); (case side1 => exact Kd.V_mk HC0.out (Kd.F_below (Kd.C_F (Kd.heap_int .u32) HR0.out) (by exact zB HB))); rintro e w17 ⟨v146, rfl, ho0, hb⟩; refine ⟨_, rfl, ?_⟩; have HO147 := zA (Kd.V_lower (Kd.V_mono (ok' := fun k_ => some k_ ≠ (v143 : Value).ownBlock) ho0 (fun k_ hk_ => Or.elim hk_ (fun hs_ => fun e_ => Nat.not_le.2 hs_ (Kd.R_base HO144.out k_ e_.symm)) (fun hn_ => (Kd.fresh' (Kd.R_lt (by exact zR HO144)) k_ hn_)))) (below_size (by exact zB HB))); replace HO144 := zA (Kd.R_below (by exact zR HO144) hb); replace HB := zA (below_step (by exact zB HB) hb); (try clear hb ho0)))
        go_loopg [1, 7, 8] kj4 (fun kq v1 v7 v8 w' => ∃ (x1_2 : Int) (x7_2 : List Int) (x8_2 : List Int), v1 = .int .i64 x1_2 ∧ Aside0 (nat_Pow.l0 kq x1_2 x7_2 x8_2 = some (r1, r2)) ∧ Aside0 (kq ≤ kj4) ∧ Aside0 (Kd.V (Kd.int .u32) 79 w' w.heap.size (fun _ => True) v7 x7_2) ∧ Aside0 (Kd.V (Kd.int .u32) 79 w' w.heap.size (fun _ => True) v8 x8_2) ∧ Aside0 (Below w.heap.size w w'))
        case atStart => exact ⟨(a1), (y142), (t145), (by first | rfl | (simp; done) | (simp [*]; done)), H', ⟨Nat.le_refl _⟩, ⟨Kd.R_V (by exact zR HO144)⟩, ⟨by (with_reducible repeat (first | apply Kd.V_alloc | apply Kd.V_drewN | apply Kd.V_drew)); exact Kd.V_mono HO147.out (fun _ hk => trivial)⟩, ⟨by exact zB HB⟩⟩
        case round =>
         clear H'
         try clear c1
         try clear p2
         try clear c3
         try clear c3b0
         try clear p6
         try clear c7
         try clear c7b0
         try clear c7b1
         try clear c8
         try clear c9
         try clear c10
         try clear c11
         try clear c11b0
         try clear c11b1
         try clear c12
         try clear c12b0
         try clear c13
         try clear c13b0
         try clear p2
         obtain ⟨x1_2, x7_2, x8_2, rfl, HA, HK2, HO_7, HO_8, HB⟩ := hrel
         cases gk with
         | zero => exact absurd HA.out (by simp [nat_Pow.l0])
         | succ k2 =>
          have H := HA.out
          clear HA
          simp only [nat_Pow.l0] at H
          by_cases c18 : (Go.bits .and .i64 x1_2 1) = 1
          ·
           rw [if_pos c18] at H
           have c18b0 : ((Go.bits .and .i64 x1_2 1) == 1) = true := beq_iff_eq.mpr c18
           have c18b1 : ((Go.bits .and .i64 x1_2 1) != 1) = false := bne_eq_false_iff_eq.mpr c18
           clear c18
           replace H := Option.bind_eq_some_iff.mp H
           obtain ⟨t148, A190, H⟩ := H
           replace H : (if (x1_2 / 2) = 0 then (if (t148.length : Int) > 4096 then (some (([] : List Int), 8)) else ((nat_Trim.f k2 t148).bind fun t151 => (some (t151, 0)))) else ((nat_times.f k2 x8_2 x8_2).bind fun t154 => (nat_Pow.l0 k2 (x1_2 / 2) t148 t154))) = some (r1, r2) := H
           have A19 := zA A190
           clear A190
           by_cases c20 : (x1_2 / 2) = 0
           ·
            rw [if_pos c20] at H
            have c20b0 : ((x1_2 / 2) == 0) = true := beq_iff_eq.mpr c20
            have c20b1 : ((x1_2 / 2) != 0) = false := bne_eq_false_iff_eq.mpr c20
            clear c20
            by_cases c21 : (t148.length : Int) > 4096
            ·
             rw [if_pos c21] at H
             have c21b0 : decide (4096 < (t148.length : Int)) = true := decide_eq_true c21
             have c21b1 : decide (4096 < t148.length) = true := decide_eq_true (by omega)
             clear c21
             simp only [Option.some.injEq, Prod.mk.injEq] at H
             obtain ⟨rfl, rfl⟩ := H
             obtain ⟨Ao22, co22, eo22⟩ := Kd.V_slice HO_7.out
             subst eo22
             obtain ⟨Ao23, co23, eo23⟩ := Kd.V_slice HO_8.out
             subst eo23
             go_wp2_with (first | ((with_reducible refine gate_callee (f := 103) rfl ?_); refine goesL_ (some 42) rfl rfl Try.func103 (by kernel_rfl) rfl #[.slice Ao22 x7_2.length co22, .slice Ao23 x8_2.length co23] rfl (by (try simp only [List.map_toArray, List.map_cons, List.map_nil]); first | done | rfl | (simp only [List.length_drop, List.length_take]; rfl)) ?_; (with_reducible refine (nat_times.calls k2 _ _ x7_2 _ _ x8_2 t148 _ ?side1 ?side2 ?side3 ?side4 A19.out).mono ?_); (case side1 => exact zC ((Kd.V_reads' HO_7.out).2.2)); (case side2 => exact (Kd.V_reads' HO_7.out).2.1); (case side3 => exact zC ((Kd.V_reads' HO_8.out).2.2)); (case side4 => exact (Kd.V_reads' HO_8.out).2.1); rintro e w24 ⟨v149, rfl, ho0, hb⟩; refine ⟨_, rfl, ?_⟩; replace HO_7 := zA (Kd.V_below (by exact zV HO_7) hb); replace HO_8 := zA (Kd.V_below (by exact zV HO_8) hb); have HO150 := zA (Kd.V_lower (Kd.V_mono (ok' := fun k_ => True) ho0 (fun k_ hk_ => trivial)) (below_size (by exact zB HB))); replace HB := zA (below_step (by exact zB HB) hb); (try clear hb ho0); obtain ⟨Ao25, co25, eo25⟩ := Kd.V_slice HO150.out; subst eo25))
             go_ret2
             exact ⟨_, by first | rfl | (simp [errW_none, errW_some] <;> rfl) | (simp [*, errW_none, errW_some] <;> rfl), by first | exact Kd.R_nil _ _ _ _ _ | exact Kd.N_nil _ _ _ _ _ | exact Kd.V_nil _ _ _ _ _ | exact Kd.Q_nil _ _ _ _ _ | exact Kd.S_nil _ _ _ _ _, by exact zB HB⟩
            ·
             rw [if_neg c21] at H
             have c21b0 : decide (4096 < (t148.length : Int)) = false := decide_eq_false c21
             have c21b1 : decide (4096 < t148.length) = false := decide_eq_false (by omega)
             clear c21
             replace H := Option.bind_eq_some_iff.mp H
             obtain ⟨t151, A260, H⟩ := H
             replace H : (some (t151, 0)) = some (r1, r2) := H
             have A26 := zA A260
             clear A260
             simp only [Option.some.injEq, Prod.mk.injEq] at H
             obtain ⟨rfl, rfl⟩ := H
             obtain ⟨Ao27, co27, eo27⟩ := Kd.V_slice HO_7.out
             subst eo27
             obtain ⟨Ao28, co28, eo28⟩ := Kd.V_slice HO_8.out
             subst eo28
             go_wp2_with (first | ((with_reducible refine gate_callee (f := 103) rfl ?_); refine goesL_ (some 42) rfl rfl Try.func103 (by kernel_rfl) rfl #[.slice Ao27 x7_2.length co27, .slice Ao28 x8_2.length co28] rfl (by (try simp only [List.map_toArray, List.map_cons, List.map_nil]); first | done | rfl | (simp only [List.length_drop, List.length_take]; rfl)) ?_; (with_reducible refine (nat_times.calls k2 _ _ x7_2 _ _ x8_2 t148 _ ?side1 ?side2 ?side3 ?side4 A19.out).mono ?_); (case side1 => exact zC ((Kd.V_reads' HO_7.out).2.2)); (case side2 => exact (Kd.V_reads' HO_7.out).2.1); (case side3 => exact zC ((Kd.V_reads' HO_8.out).2.2)); (case side4 => exact (Kd.V_reads' HO_8.out).2.1); rintro e w29 ⟨v149, rfl, ho0, hb⟩; refine ⟨_, rfl, ?_⟩; replace HO_7 := zA (Kd.V_below (by exact zV HO_7) hb); replace HO_8 := zA (Kd.V_below (by exact zV HO_8) hb); have HO150 := zA (Kd.V_lower (Kd.V_mono (ok' := fun k_ => True) ho0 (fun k_ hk_ => trivial)) (below_size (by exact zB HB))); replace HB := zA (below_step (by exact zB HB) hb); (try clear hb ho0); obtain ⟨Ao30, co30, eo30⟩ := Kd.V_slice HO150.out; subst eo30) | ((with_reducible refine gate_callee (f := 105) rfl ?_); refine goesL_ (some 54) rfl rfl Try.func105 (by kernel_rfl) rfl #[.slice Ao30 t148.length co30] rfl (by (try simp only [List.map_toArray, List.map_cons, List.map_nil]); first | done | rfl | (simp only [List.length_drop, List.length_take]; rfl)) ?_; (with_reducible refine (nat_Trim.calls k2 _ _ t148 t151 _ ?side1 ?side2 A26.out).mono ?_); (case side1 => exact zC ((Kd.V_reads' HO150.out).2.2)); (case side2 => exact (Kd.V_reads' HO150.out).2.1); rintro e w31 ⟨v152, rfl, ho0, hb⟩; refine ⟨_, rfl, ?_⟩; replace HO_7 := zA (Kd.V_elder' (by exact zV HO_7) (Kd.R_base ho0) hb); replace HO_8 := zA (Kd.V_elder' (by exact zV HO_8) (Kd.R_base ho0) hb); replace HO150 := zA (Kd.V_elder' (by exact zV HO150) (Kd.R_base ho0) hb); have HO153 := zA (Kd.R_lower ho0 (below_size (by exact zB HB))); replace HB := zA (below_step (by exact zB HB) hb); (try clear hb ho0)))
             go_ret2
             exact ⟨_, by first | rfl | (simp [errW_none, errW_some] <;> rfl) | (simp [*, errW_none, errW_some] <;> rfl), by exact zR HO153, by exact zB HB⟩
           ·
            rw [if_neg c20] at H
            have c20b0 : ((x1_2 / 2) == 0) = false := beq_eq_false_iff_ne.mpr c20
            have c20b1 : ((x1_2 / 2) != 0) = true := bne_iff_ne.mpr c20
            replace H := Option.bind_eq_some_iff.mp H
            obtain ⟨t154, A320, H⟩ := H
            replace H : (nat_Pow.l0 k2 (x1_2 / 2) t148 t154) = some (r1, r2) := H
            have A32 := zA A320
            clear A320
            have H' := zA H
            clear H
            obtain ⟨Ao33, co33, eo33⟩ := Kd.V_slice HO_7.out
            subst eo33
            obtain ⟨Ao34, co34, eo34⟩ := Kd.V_slice HO_8.out
            subst eo34
            go_wp2_with (first | ((with_reducible refine gate_callee (f := 103) rfl ?_); refine goesL_ (some 42) rfl rfl Try.func103 (by kernel_rfl) rfl #[.slice Ao33 x7_2.length co33, .slice Ao34 x8_2.length co34] rfl (by (try simp only [List.map_toArray, List.map_cons, List.map_nil]); first | done | rfl | (simp only [List.length_drop, List.length_take]; rfl)) ?_; (with_reducible refine (nat_times.calls k2 _ _ x7_2 _ _ x8_2 t148 _ ?side1 ?side2 ?side3 ?side4 A19.out).mono ?_); (case side1 => exact zC ((Kd.V_reads' HO_7.out).2.2)); (case side2 => exact (Kd.V_reads' HO_7.out).2.1); (case side3 => exact zC ((Kd.V_reads' HO_8.out).2.2)); (case side4 => exact (Kd.V_reads' HO_8.out).2.1); rintro e w35 ⟨v149, rfl, ho0, hb⟩; refine ⟨_, rfl, ?_⟩; replace HO_7 := zA (Kd.V_below (by exact zV HO_7) hb); replace HO_8 := zA (Kd.V_below (by exact zV HO_8) hb); have HO150 := zA (Kd.V_lower (Kd.V_mono (ok' := fun k_ => True) ho0 (fun k_ hk_ => trivial)) (below_size (by exact zB HB))); replace HB := zA (below_step (by exact zB HB) hb); (try clear hb ho0)) | ((with_reducible refine gate_callee (f := 103) rfl ?_); refine goesL_ (some 49) rfl rfl Try.func103 (by kernel_rfl) rfl #[.slice Ao34 x8_2.length co34, .slice Ao34 x8_2.length co34] rfl (by (try simp only [List.map_toArray, List.map_cons, List.map_nil]); first | done | rfl | (simp only [List.length_drop, List.length_take]; rfl)) ?_; (with_reducible refine (nat_times.calls k2 _ _ x8_2 _ _ x8_2 t154 _ ?side1 ?side2 ?side3 ?side4 A32.out).mono ?_); (case side1 => exact zC ((Kd.V_reads' HO_8.out).2.2)); (case side2 => exact (Kd.V_reads' HO_8.out).2.1); (case side3 => exact zC ((Kd.V_reads' HO_8.out).2.2)); (case side4 => exact (Kd.V_reads' HO_8.out).2.1); rintro e w36 ⟨v155, rfl, ho0, hb⟩; refine ⟨_, rfl, ?_⟩; replace HO_7 := zA (Kd.V_below (by exact zV HO_7) hb); replace HO_8 := zA (Kd.V_below (by exact zV HO_8) hb); replace HO150 := zA (Kd.V_below (by exact zV HO150) hb); have HO156 := zA (Kd.V_lower (Kd.V_mono (ok' := fun k_ => True) ho0 (fun k_ hk_ => trivial)) (below_size (by exact zB HB))); replace HB := zA (below_step (by exact zB HB) hb); (try clear hb ho0)))
            go_roundg k2
            case measure => have := HJ4.out; have := HK2.out; omega
            case rel => exact ⟨(x1_2 / 2), (t148), (t154), (by first | rfl | (simp; done) | (simp [*]; done)), H', ⟨by have := HJ4.out; have := HK2.out; omega⟩, ⟨by exact zV HO150⟩, ⟨by exact zV HO156⟩, ⟨by exact zB HB⟩⟩
          ·
           rw [if_neg c18] at H
           have c18b0 : ((Go.bits .and .i64 x1_2 1) == 1) = false := beq_eq_false_iff_ne.mpr c18
           have c18b1 : ((Go.bits .and .i64 x1_2 1) != 1) = true := bne_iff_ne.mpr c18
           by_cases c37 : (x1_2 / 2) = 0
           ·
            rw [if_pos c37] at H
            have c37b0 : ((x1_2 / 2) == 0) = true := beq_iff_eq.mpr c37
            have c37b1 : ((x1_2 / 2) != 0) = false := bne_eq_false_iff_eq.mpr c37
            clear c37
            by_cases c38 : (x7_2.length : Int) > 4096
            ·
             rw [if_pos c38] at H
             have c38b0 : decide (4096 < (x7_2.length : Int)) = true := decide_eq_true c38
             have c38b1 : decide (4096 < x7_2.length) = true := decide_eq_true (by omega)
             clear c38
             simp only [Option.some.injEq, Prod.mk.injEq] at H
             obtain ⟨rfl, rfl⟩ := H
             obtain ⟨Ao39, co39, eo39⟩ := Kd.V_slice HO_7.out
             subst eo39
             go_wp2
             go_ret2
             exact ⟨_, by first | rfl | (simp [errW_none, errW_some] <;> rfl) | (simp [*, errW_none, errW_some] <;> rfl), by first | exact Kd.R_nil _ _ _ _ _ | exact Kd.N_nil _ _ _ _ _ | exact Kd.V_nil _ _ _ _ _ | exact Kd.Q_nil _ _ _ _ _ | exact Kd.S_nil _ _ _ _ _, by exact zB HB⟩
            ·
             rw [if_neg c38] at H
             have c38b0 : decide (4096 < (x7_2.length : Int)) = false := decide_eq_false c38
             have c38b1 : decide (4096 < x7_2.length) = false := decide_eq_false (by omega)
             clear c38
             replace H := Option.bind_eq_some_iff.mp H
             obtain ⟨t157, A400, H⟩ := H
             replace H : (some (t157, 0)) = some (r1, r2) := H
             have A40 := zA A400
             clear A400
             simp only [Option.some.injEq, Prod.mk.injEq] at H
             obtain ⟨rfl, rfl⟩ := H
             obtain ⟨Ao41, co41, eo41⟩ := Kd.V_slice HO_7.out
             subst eo41
             go_wp2_with (first | ((with_reducible refine gate_callee (f := 105) rfl ?_); refine goesL_ (some 54) rfl rfl Try.func105 (by kernel_rfl) rfl #[.slice Ao41 x7_2.length co41] rfl (by (try simp only [List.map_toArray, List.map_cons, List.map_nil]); first | done | rfl | (simp only [List.length_drop, List.length_take]; rfl)) ?_; (with_reducible refine (nat_Trim.calls k2 _ _ x7_2 t157 _ ?side1 ?side2 A40.out).mono ?_); (case side1 => exact zC ((Kd.V_reads' HO_7.out).2.2)); (case side2 => exact (Kd.V_reads' HO_7.out).2.1); rintro e w42 ⟨v158, rfl, ho0, hb⟩; refine ⟨_, rfl, ?_⟩; replace HO_7 := zA (Kd.V_elder' (by exact zV HO_7) (Kd.R_base ho0) hb); replace HO_8 := zA (Kd.V_elder' (by exact zV HO_8) (Kd.R_base ho0) hb); have HO159 := zA (Kd.R_lower ho0 (below_size (by exact zB HB))); replace HB := zA (below_step (by exact zB HB) hb); (try clear hb ho0)))
             go_ret2
             exact ⟨_, by first | rfl | (simp [errW_none, errW_some] <;> rfl) | (simp [*, errW_none, errW_some] <;> rfl), by exact zR HO159, by exact zB HB⟩
           ·
            rw [if_neg c37] at H
            have c37b0 : ((x1_2 / 2) == 0) = false := beq_eq_false_iff_ne.mpr c37
            have c37b1 : ((x1_2 / 2) != 0) = true := bne_iff_ne.mpr c37
            replace H := Option.bind_eq_some_iff.mp H
            obtain ⟨t160, A430, H⟩ := H
            replace H : (nat_Pow.l0 k2 (x1_2 / 2) x7_2 t160) = some (r1, r2) := H
            have A43 := zA A430
            clear A430
            have H' := zA H
            clear H
            obtain ⟨Ao44, co44, eo44⟩ := Kd.V_slice HO_8.out
            subst eo44
            go_wp2_with (first | ((with_reducible refine gate_callee (f := 103) rfl ?_); refine goesL_ (some 49) rfl rfl Try.func103 (by kernel_rfl) rfl #[.slice Ao44 x8_2.length co44, .slice Ao44 x8_2.length co44] rfl (by (try simp only [List.map_toArray, List.map_cons, List.map_nil]); first | done | rfl | (simp only [List.length_drop, List.length_take]; rfl)) ?_; (with_reducible refine (nat_times.calls k2 _ _ x8_2 _ _ x8_2 t160 _ ?side1 ?side2 ?side3 ?side4 A43.out).mono ?_); (case side1 => exact zC ((Kd.V_reads' HO_8.out).2.2)); (case side2 => exact (Kd.V_reads' HO_8.out).2.1); (case side3 => exact zC ((Kd.V_reads' HO_8.out).2.2)); (case side4 => exact (Kd.V_reads' HO_8.out).2.1); rintro e w45 ⟨v161, rfl, ho0, hb⟩; refine ⟨_, rfl, ?_⟩; replace HO_7 := zA (Kd.V_below (by exact zV HO_7) hb); replace HO_8 := zA (Kd.V_below (by exact zV HO_8) hb); have HO162 := zA (Kd.V_lower (Kd.V_mono (ok' := fun k_ => True) ho0 (fun k_ hk_ => trivial)) (below_size (by exact zB HB))); replace HB := zA (below_step (by exact zB HB) hb); (try clear hb ho0)))
            go_roundg k2
            case measure => have := HJ4.out; have := HK2.out; omega
            case rel => exact ⟨(x1_2 / 2), (x7_2), (t160), (by first | rfl | (simp; done) | (simp [*]; done)), H', ⟨by have := HJ4.out; have := HK2.out; omega⟩, ⟨by exact zV HO_7⟩, ⟨by exact zV HO162⟩, ⟨by exact zB HB⟩⟩
/-! ### nat_Of: function 98 -/
def nat_Of.f (k : Nat) (a0 : Int) : Option (List Int) := (nat_Trim.f k (([(a0) % 4294967296, (a0 / 4294967296) % 4294967296] : List Int))).bind fun t166 => (some t166)
set_option maxHeartbeats 8000000 in
set_option maxRecDepth 100000 in
theorem nat_Of.calls (k : Nat) (a0 : Int) (r : List Int) (w : World) (h : nat_Of.f k a0 = some r) :
  Calls Try.prog 98 #[.int .u64 a0] w fun e w' => ∃ v0_ : Value, e = .returned (v0_) ∧ Kd.R (Kd.int .u32) 79 w' w.heap.size (fun _ => True) v0_ r ∧ Below w.heap.size w w' := by
 have HB := zA (Below.refl w.heap.size w)
 have H : ((nat_Trim.f k (([(a0) % 4294967296, (a0 / 4294967296) % 4294967296] : List Int))).bind fun t166 => (some t166)) = some r := h
 clear h
 obtain ⟨y163, hy163⟩ : ∃ y_ : List Int, y_ = (([(a0) % 4294967296, (a0 / 4294967296) % 4294967296] : List Int)) := ⟨_, rfl⟩
 replace H : ((nat_Trim.f k y163).bind fun t166 => (some t166)) = some r := by first | (rw [hy163]; with_reducible exact H) | (have H := (Option.bind_some _ _).symm.trans H; first | (rw [hy163]; with_reducible exact H) | with_reducible exact H) | (rw [hy163]; exact H) | exact H
 have Ny163 := zA hy163
 clear hy163
 replace H := Option.bind_eq_some_iff.mp H
 obtain ⟨t166, A20, H⟩ := H
 replace H : (some t166) = some r := H
 have A2 := zA A20
 clear A20
 obtain rfl := Option.some.inj H
 go_enter Try.func98, Try.ntmps98
 go_wp2_with (first | ((with_reducible refine gate_dst (N := 8) rfl ?_); refine Kd.R_lit (Kd.int .u32) _ 79 ?hg (N := 8) ?hd (xs := ([(a0) % 4294967296, (a0 / 4294967296) % 4294967296] : List Int)) (inner := [.int .u32 ((a0) % 4294967296), .int .u32 ((a0 / 4294967296) % 4294967296)]) (ok := fun _ => True) (okp := fun _ => True) ?hr ?hp (fun _ hk => hk) trivial (Below.refl _ _) (Nat.le_refl _) (by simp) ?_; (case hd => rfl); (case hg => rfl); (case hr => first | (go_simp; done) | (go_simp; rfl)); (case hp => exact (Reps.one (show Kd.M (Kd.int .u32) _ _ _ ((a0) % 4294967296) [.int .u32 ((a0) % 4294967296)] from rfl) (Reps.one (show Kd.M (Kd.int .u32) _ _ _ ((a0 / 4294967296) % 4294967296) [.int .u32 ((a0 / 4294967296) % 4294967296)] from rfl) (Reps.none _ _)))); intro v164 w3 ho4 hb hg_ hnew_; clear hg_ hnew_; (first | rw [← Ny163.out] at ho4 | (simp only [Int.reduceToNat] at ho4; rw [← Ny163.out] at ho4)); have HO165 := zA (Kd.R_lower ho4 (below_size (by exact zB HB))); replace HB := zA (below_step (by exact zB HB) hb); clear hb ho4; obtain ⟨Ao5, co5, eo5⟩ := Kd.R_slice HO165.out; subst eo5) | ((with_reducible refine gate_callee (f := 105) rfl ?_); refine goesL_ (some 9) rfl rfl Try.func105 (by kernel_rfl) rfl #[.slice Ao5 y163.length co5] rfl (by (try simp only [List.map_toArray, List.map_cons, List.map_nil]); first | done | rfl | (simp only [List.length_drop, List.length_take]; rfl)) ?_; (with_reducible refine (nat_Trim.calls k _ _ y163 t166 _ ?side1 ?side2 A2.out).mono ?_); (case side1 => exact zC ((Kd.R_reads' HO165.out).2.2)); (case side2 => exact (Kd.R_reads' HO165.out).2.1); rintro e w6 ⟨v167, rfl, ho0, hb⟩; refine ⟨_, rfl, ?_⟩; have HO168 := zA (Kd.R_lower (Kd.R_new' ho0 (Kd.R_lt (by exact zR HO165))) (below_size (by exact zB HB))); replace HO165 := zA (Kd.R_elder' (by exact zR HO165) (Kd.R_base ho0) hb); replace HB := zA (below_step (by exact zB HB) hb); (try clear hb ho0)))
 go_ret
 exact ⟨_, by first | rfl | (simp [errW_none, errW_some] <;> rfl) | (simp [*, errW_none, errW_some] <;> rfl), by (with_reducible repeat (first | apply Kd.R_alloc | apply Kd.R_drewN | apply Kd.R_drew)); exact Kd.R_mono HO168.out (fun _ hk => trivial), by exact zB HB⟩
/-! ### nat_digit: function 120 -/
def nat_digit.l0 : Nat → List Int → Int → List Int → Int → Int → Option (List Int × Int)
 | 0, _, _, _, _, _ => none
 | k + 1, x0, x1, x6, x7, x8 => if x8 ≥ 0 then (if 0 ≤ x8 then (if x8 < (x0.length : Int) then (if (IntKind.u64.wrap (x1)) = 0 then (none) else (if x8 < (x6.length : Int) then (nat_digit.l0 k x0 x1 (x6.set (x8 : Int).toNat ((IntKind.u64.wrap (Int.tdiv (Go.bits .or .u64 (IntKind.u64.wrap (x7 * 4294967296)) (IntKind.u64.wrap (rd x0 x8))) (IntKind.u64.wrap (x1)))) % 4294967296)) (Int.tmod (Go.bits .or .u64 (IntKind.u64.wrap (x7 * 4294967296)) (IntKind.u64.wrap (rd x0 x8))) (IntKind.u64.wrap (x1))) (wrap64 (x8 - 1))) else (none))) else (none)) else (none)) else ((nat_short.f k x6).bind fun t174 => (some (t174, (x7) % 4294967296)))
def nat_digit.f (k : Nat) (l0 : List Int) (a1 : Int) : Option (List Int × Int) := if 0 ≤ (l0.length : Int) then (if ((l0.length : Int) : Int).toNat ≤ 70368744177664 then (nat_digit.l0 k l0 a1 (List.replicate ((l0.length : Int) : Int).toNat 0) 0 (wrap64 ((l0.length : Int) - 1))) else (none)) else (none)
set_option maxHeartbeats 8000000 in
set_option maxRecDepth 100000 in
theorem nat_digit.calls (k : Nat) (A0 : Option Addr) (c0 : Nat) (l0 : List Int) (a1 : Int) (r1 : List Int) (r2 : Int) (w : World) (hr0 : Kd.C (Kd.int .u32) w A0 l0.length l0) (hc0 : l0.length ≤ c0) (h : nat_digit.f k l0 a1 = some (r1, r2)) :
  Calls Try.prog 120 #[.slice A0 l0.length c0, .int .u32 a1] w fun e w' => ∃ v0_ : Value, e = .returned (.tuple #[v0_, .int .u32 r2]) ∧ Kd.V (Kd.int .u32) 79 w' w.heap.size (fun k_ => (w.heap.size ≤ k_)) v0_ r1 ∧ Below w.heap.size w w' := by
 have HR0 := zA hr0
 have HC0 := zA hc0
 clear hr0 hc0
 have HB := zA (Below.refl w.heap.size w)
 have H : (if 0 ≤ (l0.length : Int) then (if ((l0.length : Int) : Int).toNat ≤ 70368744177664 then (nat_digit.l0 k l0 a1 (List.replicate ((l0.length : Int) : Int).toNat 0) 0 (wrap64 ((l0.length : Int) - 1))) else (none)) else (none)) = some (r1, r2) := h
 clear h
 by_cases c3 : 0 ≤ (l0.length : Int)
 ·
  rw [if_pos c3] at H
  have c3b0 := eq_true c3
  have c3b1 : decide (0 ≤ (l0.length : Int)) = true := decide_eq_true c3
  clear c3
  by_cases c4 : ((l0.length : Int) : Int).toNat ≤ 70368744177664
  ·
   rw [if_pos c4] at H
   have c4b0 := eq_true c4
   have c4b1 : decide (((l0.length : Int) : Int).toNat ≤ 70368744177664) = true := decide_eq_true c4
   clear c4
   obtain ⟨y169, hy169⟩ : ∃ y_ : List Int, y_ = (List.replicate ((l0.length : Int) : Int).toNat 0) := ⟨_, rfl⟩
   replace H : (nat_digit.l0 k l0 a1 y169 0 (wrap64 ((l0.length : Int) - 1))) = some (r1, r2) := by first | (rw [hy169]; with_reducible exact H) | (have H := (Option.bind_some _ _).symm.trans H; first | (rw [hy169]; with_reducible exact H) | with_reducible exact H) | (rw [hy169]; exact H) | exact H
   have Ny169 := zA hy169
   clear hy169
   have H' := zA H
   clear H
   go_enter Try.func120, Try.ntmps120
   go_wp2_with (first | ((with_reducible refine gate_dst (N := 11) rfl ?_); refine Kd.R_make (Kd.int .u32) _ 79 rfl (N := 11) rfl 32 _ _ rfl (l0.length : Int) rfl rfl Try.underlying32 (.int .u32 0) 4 info79 rfl (by decide) (by omega) 0 (ok := fun _ => True) (okp := fun _ => True) rfl (fun _ hk => hk) trivial (of_decide_eq_true (by assumption)) (Nat.le_trans (Nat.mul_le_mul_right _ (of_decide_eq_true (by assumption) : (l0.length : Int).toNat ≤ 70368744177664)) (by omega)) (Below.refl _ _) (Nat.le_refl _) ?_; intro v170 w5 ho6 hb hg_ hnew_; clear hg_ hnew_; (first | rw [← Ny169.out] at ho6 | (simp only [Int.reduceToNat] at ho6; rw [← Ny169.out] at ho6)); have HO171 := zA (Kd.R_lower (Kd.R_newM (M := fun k_ => (w.heap.size ≤ k_)) ho6 (below_size (by exact zB HB)) (fun k_ h_ => h_)) (below_size (by exact zB HB))); replace HB := zA (below_step (by exact zB HB) hb); clear hb ho6))
   go_loopg [7, 8] k (fun kq v7 v8 w' => ∃ (x6_1 : List Int) (x7_1 : Int) (x8_1 : Int), v7 = .int .u64 x7_1 ∧ v8 = .int .i64 x8_1 ∧ Aside0 (nat_digit.l0 kq l0 a1 x6_1 x7_1 x8_1 = some (r1, r2)) ∧ Aside0 (kq ≤ k) ∧ Aside0 (Kd.R (Kd.int .u32) 79 w' w.heap.size (fun k_ => (w.heap.size ≤ k_)) v170 x6_1) ∧ Aside0 (Below w.heap.size w w'))
   case atStart => exact ⟨(y169), (0), (wrap64 ((l0.length : Int) - 1)), (by first | rfl | (simp; done) | (simp [*]; done)), (by first | rfl | (simp; done) | (simp [*]; done)), H', ⟨Nat.le_refl _⟩, ⟨by (with_reducible repeat (first | apply Kd.R_alloc | apply Kd.R_drewN | apply Kd.R_drew)); exact Kd.R_mono HO171.out (fun _ hk => hk.1)⟩, ⟨by exact zB HB⟩⟩
   case round =>
    clear H'
    try clear c1
    try clear p2
    try clear c3
    try clear c3b0
    try clear c3b1
    try clear c4
    try clear c4b0
    try clear c4b1
    try clear p6
    obtain ⟨x6_1, x7_1, x8_1, rfl, rfl, HA, HK1, HO_6, HB⟩ := hrel
    cases gk with
    | zero => exact absurd HA.out (by simp [nat_digit.l0])
    | succ k1 =>
     have H := HA.out
     clear HA
     simp only [nat_digit.l0] at H
     by_cases c7 : x8_1 ≥ 0
     ·
      rw [if_pos c7] at H
      have c7b0 : decide (0 ≤ x8_1) = true := decide_eq_true c7
      clear c7
      by_cases c8 : 0 ≤ x8_1
      ·
       rw [if_pos c8] at H
       have c8b0 : decide (0 ≤ x8_1) = true := decide_eq_true c8
       clear c8
       by_cases c9 : x8_1 < (l0.length : Int)
       ·
        rw [if_pos c9] at H
        have c9b0 : decide (x8_1 < (l0.length : Int)) = true := decide_eq_true c9
        clear c9
        by_cases c10 : (IntKind.u64.wrap (a1)) = 0
        ·
         rw [if_pos c10] at H
         exact absurd H (by simp)
        ·
         rw [if_neg c10] at H
         have c10b0 : ((IntKind.u64.wrap (a1)) == 0) = false := beq_eq_false_iff_ne.mpr c10
         have c10b1 : ((IntKind.u64.wrap (a1)) != 0) = true := bne_iff_ne.mpr c10
         by_cases c11 : x8_1 < (x6_1.length : Int)
         ·
          rw [if_pos c11] at H
          have c11b0 : decide (x8_1 < (x6_1.length : Int)) = true := decide_eq_true c11
          clear c11
          obtain ⟨y173, hy173⟩ : ∃ y_ : List Int, y_ = (x6_1.set (x8_1 : Int).toNat ((IntKind.u64.wrap (Int.tdiv (Go.bits .or .u64 (IntKind.u64.wrap (x7_1 * 4294967296)) (IntKind.u64.wrap (rd l0 x8_1))) (IntKind.u64.wrap (a1)))) % 4294967296)) := ⟨_, rfl⟩
          replace H : (nat_digit.l0 k1 l0 a1 y173 (Int.tmod (Go.bits .or .u64 (IntKind.u64.wrap (x7_1 * 4294967296)) (IntKind.u64.wrap (rd l0 x8_1))) (IntKind.u64.wrap (a1))) (wrap64 (x8_1 - 1))) = some (r1, r2) := by first | (rw [hy173]; with_reducible exact H) | (have H := (Option.bind_some _ _).symm.trans H; first | (rw [hy173]; with_reducible exact H) | with_reducible exact H) | (rw [hy173]; exact H) | exact H
          have Ny173 := zA hy173
          clear hy173
          have H' := zA H
          clear H
          have p172 : 0 ≤ (x8_1 : Int) := of_decide_eq_true (by assumption)
          have q172 : x8_1 < (l0.length : Int) := of_decide_eq_true (by assumption)
          obtain ⟨ad172, e172, hx172_0⟩ := Kd.at_int HR0.out x8_1 p172 q172
          cases e172
          replace hx172_0 := (HB.out.cell (World.block_lt_of_cell? w _ hx172_0)).trans hx172_0
          replace p172 := eq_true p172
          replace q172 := eq_true q172
          have p12 : 0 ≤ (x8_1 : Int) := of_decide_eq_true (by assumption)
          have q12 : (x8_1 : Int) < ((x6_1.length : Int) : Int) := of_decide_eq_true (by assumption)
          obtain ⟨go12, co12, eo12, gb12, gl12, cl12, HG12⟩ := Kd.R_form HO_6.out (by omega)
          (first | cases eo12 | (injection eo12 with ea_ en_ ec_; (first | subst ea_ | (injection ea_ with ea_; subst ea_)); subst ec_; clear en_))
          have GB12 := zA gb12
          have GG12 := zA HG12
          clear gb12 gl12 HG12
          obtain ⟨hx12_0, hf12_0⟩ := Kd.R_celln 0 HO_6.out (x8_1 : Int) p12 q12
          replace p12 := eq_true p12
          replace q12 := eq_true q12
          have HP13 := Kd.R_putg HO_6.out (x8_1 : Int) ((IntKind.u64.wrap (Int.tdiv (Go.bits .or .u64 (IntKind.u64.wrap (x7_1 * 4294967296)) (IntKind.u64.wrap (rd l0 x8_1))) (IntKind.u64.wrap (a1)))) % 4294967296)
          go_wp2_with (first | ((with_reducible refine gate_store (t := 79) (p := 34) rfl ?_); refine store_event (t := 79) (p := 34) (v := ?vo_w14) (w1 := (wr.setCell ⟨go12, (x8_1 : Int).toNat, none⟩ (.int .u32 ((IntKind.u64.wrap (Int.tdiv (Go.bits .or .u64 (IntKind.u64.wrap (x7_1 * 4294967296)) (IntKind.u64.wrap (rd l0 x8_1))) (IntKind.u64.wrap (a1)))) % 4294967296)))) ?hg ?ho ?hn ?hr ?_; (case ho => rfl); (case hg => rfl); (case hn => rfl); (case hr => first | (go_simp; done) | (go_simp; rfl)); intro w14 hw; have hg : wr.grownBy w14 (some go12) := (by rw [hw]; exact HP13.2); have hp_ : Kd.R (Kd.int .u32) 79 w14 w.heap.size (fun k_ => (w.heap.size ≤ k_)) (.slice (some ⟨go12, 0, none⟩) x6_1.length co12) y173 := (by rw [hw, Ny173.out]; exact HP13.1); clear HP13; replace HO_6 := zA (hp_); replace HB := zA ((by rw [hw]; exact below_set (HB.out) GB12.out : Below w.heap.size w w14)); clear hg hw hp_))
          go_roundg k1
          case measure => have := HK1.out; omega
          case rel => exact ⟨(y173), (Int.tmod (Go.bits .or .u64 (IntKind.u64.wrap (x7_1 * 4294967296)) (IntKind.u64.wrap (rd l0 x8_1))) (IntKind.u64.wrap (a1))), (wrap64 (x8_1 - 1)), (by first | rfl | (simp; done) | (simp [*]; done)), (by first | rfl | (simp; done) | (simp [*]; done)), H', ⟨by have := HK1.out; omega⟩, ⟨by exact zR HO_6⟩, ⟨by exact zB HB⟩⟩
         ·
          rw [if_neg c11] at H
          exact absurd H (by simp)
       ·
        rw [if_neg c9] at H
        exact absurd H (by simp)
      ·
       rw [if_neg c8] at H
       exact absurd H (by simp)
     ·
      rw [if_neg c7] at H
      have c7b0 : decide (0 ≤ x8_1) = false := decide_eq_false c7
      clear c7
      replace H := Option.bind_eq_some_iff.mp H
      obtain ⟨t174, A150, H⟩ := H
      replace H : (some (t174, (x7_1) % 4294967296)) = some (r1, r2) := H
      have A15 := zA A150
      clear A150
      simp only [Option.some.injEq, Prod.mk.injEq] at H
      obtain ⟨rfl, rfl⟩ := H
      obtain ⟨Ao16, co16, eo16⟩ := Kd.R_slice HO_6.out
      subst eo16
      go_wp2_with (first | ((with_reducible refine gate_callee (f := 104) rfl ?_); refine goesL_ (some 40) rfl rfl Try.func104 (by kernel_rfl) rfl #[.slice Ao16 x6_1.length co16] rfl (by (try simp only [List.map_toArray, List.map_cons, List.map_nil]); first | done | rfl | (simp only [List.length_drop, List.length_take]; rfl)) ?_; (with_reducible refine (nat_short.calls k1 (fun k_ => some k_ = (.slice Ao16 x6_1.length co16 : Value).ownBlock) _ _ x6_1 t174 _ ?side1 A15.out).mono ?_); (case side1 => exact Kd.R_V (Kd.R_tight rfl (HO_6.out))); rintro e w17 ⟨v175, rfl, ho0, hb⟩; refine ⟨_, rfl, ?_⟩; have HO176 := zA (Kd.V_lower (Kd.V_mono (ok' := fun k_ => (w.heap.size ≤ k_)) ho0 (fun k_ hk_ => Or.elim hk_ (fun hs_ => ((HO_6.out).1 k_ hs_.symm)) (fun hn_ => (Nat.le_trans (below_size (by exact zB HB)) hn_)))) (below_size (by exact zB HB))); replace HO_6 := zA (Kd.R_below (by exact zR HO_6) hb); replace HB := zA (below_step (by exact zB HB) hb); (try clear hb ho0)))
      go_ret2
      exact ⟨_, by first | rfl | (simp [errW_none, errW_some] <;> rfl) | (simp [*, errW_none, errW_some] <;> rfl), by exact zV HO176, by exact zB HB⟩
  ·
   rw [if_neg c4] at H
   exact absurd H (by simp)
 ·
  rw [if_neg c3] at H
  exact absurd H (by simp)
/-! ### nat_Binomial: function 99 -/
mutual
def nat_Binomial.j0 : Nat → Int → Int → Bool → Option (List Int × Int)
 | 0, _, _, _ => none
 | k + 1, x0, x1, x13 => if x13 = true then (some (([] : List Int), 6)) else (if x1 < 0 then (nat_Binomial.j1 k x0 x1 true) else (nat_Binomial.j1 k x0 x1 (decide (x1 > x0))))
def nat_Binomial.j1 : Nat → Int → Int → Bool → Option (List Int × Int)
 | 0, _, _, _ => none
 | k + 1, x0, x1, x20 => if x20 = true then (some (([] : List Int), 0)) else (nat_Binomial.l0 k x0 (([1] : List Int)) (mn x1 (wrap64 (x0 - x1))) 0)
def nat_Binomial.l0 : Nat → Int → List Int → Int → Int → Option (List Int × Int)
 | 0, _, _, _, _ => none
 | k + 1, x0, x6, x26, x27 => if x27 < x26 then ((nat_times.f k x6 (([(wrap64 (x0 - x27)) % 4294967296] : List Int))).bind fun t183 => ((nat_digit.f k t183 ((wrap64 (x27 + 1)) % 4294967296)).bind fun bt186 => (nat_Binomial.l0 k x0 bt186.1 x26 (wrap64 (x27 + 1))))) else ((nat_Trim.f k x6).bind fun t190 => (some (t190, 0)))
end
def nat_Binomial.f (k : Nat) (a0 : Int) (a1 : Int) : Option (List Int × Int) := if a0 < 0 then (nat_Binomial.j0 k a0 a1 true) else (nat_Binomial.j0 k a0 a1 (decide (a0 > 4096)))
set_option maxHeartbeats 8000000 in
set_option maxRecDepth 100000 in
theorem nat_Binomial.calls (k : Nat) (a0 : Int) (a1 : Int) (r1 : List Int) (r2 : Int) (w : World) (h : nat_Binomial.f k a0 a1 = some (r1, r2)) :
  Calls Try.prog 99 #[.int .i64 a0, .int .i64 a1] w fun e w' => ∃ v0_ : Value, e = .returned (.tuple #[v0_, .int .i64 r2]) ∧ Kd.R (Kd.int .u32) 79 w' w.heap.size (fun _ => True) v0_ r1 ∧ Below w.heap.size w w' := by
 have HB := zA (Below.refl w.heap.size w)
 have H : (if a0 < 0 then (nat_Binomial.j0 k a0 a1 true) else (nat_Binomial.j0 k a0 a1 (decide (a0 > 4096)))) = some (r1, r2) := h
 clear h
 have HC3 := zA H
 clear H
 go_enter Try.func99, Try.ntmps99
 go_upto_region 1 with (fail)
 go_cut [13] (fun v13 wc => ∃ (kq : Nat) (x13_2 : Bool), v13 = .bool x13_2 ∧ Aside0 (nat_Binomial.j0 kq a0 a1 x13_2 = some (r1, r2)) ∧ Aside0 (kq ≤ k) ∧ Aside0 (Below w.heap.size w wc))
 case first =>
  have H := HC3.out
  clear HC3
  by_cases c4 : a0 < 0
  ·
   rw [if_pos c4] at H
   have c4b0 : decide (a0 < 0) = true := decide_eq_true c4
   clear c4
   (first | rw [c4b0] | (simp only [i64_w, i32_w]; rw [c4b0]) | rw [c4b1] | rw [c4b2] | skip)
   have H' := zA H
   clear H
   go_wp2
   go_meet
   case rel => exact ⟨_, (true), (by first | rfl | (simp; done) | (simp [*]; done)), H', ⟨by first | omega | exact Nat.le_refl _⟩, ⟨by exact zB HB⟩⟩
  ·
   rw [if_neg c4] at H
   have c4b0 : decide (a0 < 0) = false := decide_eq_false c4
   clear c4
   (first | rw [c4b0] | (simp only [i64_w, i32_w]; rw [c4b0]) | rw [c4b1] | rw [c4b2] | skip)
   have H' := zA H
   clear H
   go_wp2
   go_meet
   case rel => exact ⟨_, (decide (a0 > 4096)), (by first | rfl | (simp; done) | (simp [*]; done)), H', ⟨by first | omega | exact Nat.le_refl _⟩, ⟨by exact zB HB⟩⟩
 case rest =>
  clear HC3
  try clear p2
  try clear c4
  try clear c4b0
  obtain ⟨kq, x13_2, rfl, HA, HJ2, HB⟩ := hcut
  cases kq with
  | zero => exact absurd HA.out (by simp [nat_Binomial.j0])
  | succ kj2 =>
   have H := HA.out
   clear HA
   simp only [nat_Binomial.j0] at H
   by_cases c5 : x13_2 = true
   ·
    subst c5
    have H1 : (some (([] : List Int), 6)) = some (r1, r2) := by rw [if_pos rfl] at H; exact H
    clear H
    have H := H1
    clear H1
    simp only [Option.some.injEq, Prod.mk.injEq] at H
    obtain ⟨rfl, rfl⟩ := H
    go_wp2
    go_ret2
    exact ⟨_, by first | rfl | (simp [errW_none, errW_some] <;> rfl) | (simp [*, errW_none, errW_some] <;> rfl), by first | exact Kd.R_nil _ _ _ _ _ | exact Kd.N_nil _ _ _ _ _ | exact Kd.V_nil _ _ _ _ _ | exact Kd.Q_nil _ _ _ _ _ | exact Kd.S_nil _ _ _ _ _, by exact zB HB⟩
   ·
    replace c5 := Bool.eq_false_iff.mpr c5
    subst c5
    have H1 : (if a1 < 0 then (nat_Binomial.j1 kj2 a0 a1 true) else (nat_Binomial.j1 kj2 a0 a1 (decide (a1 > a0)))) = some (r1, r2) := by rw [if_neg (show ¬ (false = true) by decide)] at H; exact H
    clear H
    have H := H1
    clear H1
    have HC6 := zA H
    clear H
    go_upto_region 3 with (fail)
    go_cut [20] (fun v20 wc => ∃ (kq : Nat) (x20_5 : Bool), v20 = .bool x20_5 ∧ Aside0 (nat_Binomial.j1 kq a0 a1 x20_5 = some (r1, r2)) ∧ Aside0 (kq ≤ kj2) ∧ Aside0 (Below w.heap.size w wc))
    case first =>
     have H := HC6.out
     clear HC6
     by_cases c7 : a1 < 0
     ·
      rw [if_pos c7] at H
      have c7b0 : decide (a1 < 0) = true := decide_eq_true c7
      clear c7
      (first | rw [c7b0] | (simp only [i64_w, i32_w]; rw [c7b0]) | rw [c7b1] | rw [c7b2] | skip)
      have H' := zA H
      clear H
      go_wp2
      go_meet
      case rel => exact ⟨_, (true), (by first | rfl | (simp; done) | (simp [*]; done)), H', ⟨by have := HJ2.out; first | omega | exact Nat.le_refl _⟩, ⟨by exact zB HB⟩⟩
     ·
      rw [if_neg c7] at H
      have c7b0 : decide (a1 < 0) = false := decide_eq_false c7
      clear c7
      (first | rw [c7b0] | (simp only [i64_w, i32_w]; rw [c7b0]) | rw [c7b1] | rw [c7b2] | skip)
      have H' := zA H
      clear H
      go_wp2
      go_meet
      case rel => exact ⟨_, (decide (a1 > a0)), (by first | rfl | (simp; done) | (simp [*]; done)), H', ⟨by have := HJ2.out; first | omega | exact Nat.le_refl _⟩, ⟨by exact zB HB⟩⟩
    case rest =>
     clear HC6
     try clear p2
     try clear c4
     try clear c4b0
     try clear c5
     try clear c7
     try clear c7b0
     try clear p2
     obtain ⟨kq, x20_5, rfl, HA, HJ5, HB⟩ := hcut
     cases kq with
     | zero => exact absurd HA.out (by simp [nat_Binomial.j1])
     | succ kj5 =>
      have H := HA.out
      clear HA
      simp only [nat_Binomial.j1] at H
      by_cases c8 : x20_5 = true
      ·
       subst c8
       have H1 : (some (([] : List Int), 0)) = some (r1, r2) := by rw [if_pos rfl] at H; exact H
       clear H
       have H := H1
       clear H1
       simp only [Option.some.injEq, Prod.mk.injEq] at H
       obtain ⟨rfl, rfl⟩ := H
       go_wp2
       go_ret2
       exact ⟨_, by first | rfl | (simp [errW_none, errW_some] <;> rfl) | (simp [*, errW_none, errW_some] <;> rfl), by first | exact Kd.R_nil _ _ _ _ _ | exact Kd.N_nil _ _ _ _ _ | exact Kd.V_nil _ _ _ _ _ | exact Kd.Q_nil _ _ _ _ _ | exact Kd.S_nil _ _ _ _ _, by exact zB HB⟩
      ·
       replace c8 := Bool.eq_false_iff.mpr c8
       subst c8
       have H1 : (nat_Binomial.l0 kj5 a0 (([1] : List Int)) (mn a1 (wrap64 (a0 - a1))) 0) = some (r1, r2) := by rw [if_neg (show ¬ (false = true) by decide)] at H; exact H
       clear H
       have H := H1
       clear H1
       obtain ⟨y177, hy177⟩ : ∃ y_ : List Int, y_ = (([1] : List Int)) := ⟨_, rfl⟩
       replace H : (nat_Binomial.l0 kj5 a0 y177 (mn a1 (wrap64 (a0 - a1))) 0) = some (r1, r2) := by first | (rw [hy177]; with_reducible exact H) | (have H := (Option.bind_some _ _).symm.trans H; first | (rw [hy177]; with_reducible exact H) | with_reducible exact H) | (rw [hy177]; exact H) | exact H
       have Ny177 := zA hy177
       clear hy177
       obtain ⟨ji9, hji9⟩ : ∃ j_ : Int, (mn a1 (wrap64 (a0 - a1))) = j_ := ⟨_, rfl⟩
       replace H : (nat_Binomial.l0 kj5 a0 y177 ji9 0) = some (r1, r2) := by first | (rw [hji9] at H; exact H) | (simp only [hji9] at H ⊢; exact H)
       have hji9_ : (if (wrap64 (a0 - a1)) < a1 then (wrap64 (a0 - a1)) else a1) = ji9 := hji9
       have H' := zA H
       clear H
       go_wp2_with (first | ((with_reducible refine gate_dst (N := 21) rfl ?_); refine Kd.R_lit (Kd.int .u32) _ 79 ?hg (N := 21) ?hd (xs := ([1] : List Int)) (inner := [.int .u32 1]) (ok := fun _ => True) (okp := fun _ => True) ?hr ?hp (fun _ hk => hk) trivial (Below.refl _ _) (Nat.le_refl _) (by simp) ?_; (case hd => rfl); (case hg => rfl); (case hr => first | (go_simp; done) | (go_simp; rfl)); (case hp => exact (Reps.one (show Kd.M (Kd.int .u32) _ _ _ 1 [.int .u32 1] from rfl) (Reps.none _ _))); intro v178 w10 ho11 hb hg_ hnew_; clear hg_ hnew_; (first | rw [← Ny177.out] at ho11 | (simp only [Int.reduceToNat] at ho11; rw [← Ny177.out] at ho11)); have HO179 := zA (Kd.R_lower ho11 (below_size (by exact zB HB))); replace HB := zA (below_step (by exact zB HB) hb); clear hb ho11))
       go_loopg [6, 27] kj5 (fun kq v6 v27 w' => ∃ (x6_3 : List Int) (x27_3 : Int), v27 = .int .i64 x27_3 ∧ Aside0 (nat_Binomial.l0 kq a0 x6_3 ji9 x27_3 = some (r1, r2)) ∧ Aside0 (kq ≤ kj5) ∧ Aside0 (Kd.V (Kd.int .u32) 79 w' w.heap.size (fun _ => True) v6 x6_3) ∧ Aside0 (Below w.heap.size w w'))
       case atStart => exact ⟨(y177), (0), (by first | rfl | (simp; done) | (simp [*]; done)), H', ⟨Nat.le_refl _⟩, ⟨Kd.R_V (by exact zR HO179)⟩, ⟨by exact zB HB⟩⟩
       case round =>
        clear H'
        try clear p2
        try clear c4
        try clear c4b0
        try clear c5
        try clear p6
        try clear c7
        try clear c7b0
        try clear c8
        try clear c9
        try clear p2
        obtain ⟨x6_3, x27_3, rfl, HA, HK3, HO_6, HB⟩ := hrel
        cases gk with
        | zero => exact absurd HA.out (by simp [nat_Binomial.l0])
        | succ k3 =>
         have H := HA.out
         clear HA
         simp only [nat_Binomial.l0] at H
         by_cases c12 : x27_3 < ji9
         ·
          rw [if_pos c12] at H
          have c12b0 : decide (x27_3 < ji9) = true := decide_eq_true c12
          clear c12
          obtain ⟨y180, hy180⟩ : ∃ y_ : List Int, y_ = (([(wrap64 (a0 - x27_3)) % 4294967296] : List Int)) := ⟨_, rfl⟩
          replace H : ((nat_times.f k3 x6_3 y180).bind fun t183 => ((nat_digit.f k3 t183 ((wrap64 (x27_3 + 1)) % 4294967296)).bind fun bt186 => (nat_Binomial.l0 k3 a0 bt186.1 ji9 (wrap64 (x27_3 + 1))))) = some (r1, r2) := by first | (rw [hy180]; with_reducible exact H) | (have H := (Option.bind_some _ _).symm.trans H; first | (rw [hy180]; with_reducible exact H) | with_reducible exact H) | (rw [hy180]; exact H) | exact H
          have Ny180 := zA hy180
          clear hy180
          replace H := Option.bind_eq_some_iff.mp H
          obtain ⟨t183, A130, H⟩ := H
          replace H : ((nat_digit.f k3 t183 ((wrap64 (x27_3 + 1)) % 4294967296)).bind fun bt186 => (nat_Binomial.l0 k3 a0 bt186.1 ji9 (wrap64 (x27_3 + 1)))) = some (r1, r2) := H
          have A13 := zA A130
          clear A130
          replace H := Option.bind_eq_some_iff.mp H
          obtain ⟨⟨t186, t189⟩, A140, H⟩ := H
          replace H : (nat_Binomial.l0 k3 a0 t186 ji9 (wrap64 (x27_3 + 1))) = some (r1, r2) := H
          have A14 := zA A140
          clear A140
          have H' := zA H
          clear H
          go_wp2_with (first | ((with_reducible refine gate_dst (N := 36) rfl ?_); refine Kd.R_lit (Kd.int .u32) _ 79 ?hg (N := 36) ?hd (xs := ([(wrap64 (a0 - x27_3)) % 4294967296] : List Int)) (inner := [.int .u32 ((wrap64 (a0 - x27_3)) % 4294967296)]) (ok := fun _ => True) (okp := fun _ => True) ?hr ?hp (fun _ hk => hk) trivial (Below.refl _ _) (Nat.le_refl _) (by simp) ?_; (case hd => rfl); (case hg => rfl); (case hr => first | (go_simp; done) | (go_simp; rfl)); (case hp => exact (Reps.one (show Kd.M (Kd.int .u32) _ _ _ ((wrap64 (a0 - x27_3)) % 4294967296) [.int .u32 ((wrap64 (a0 - x27_3)) % 4294967296)] from rfl) (Reps.none _ _))); intro v181 w15 ho16 hb hg_ hnew_; clear hg_ hnew_; (first | rw [← Ny180.out] at ho16 | (simp only [Int.reduceToNat] at ho16; rw [← Ny180.out] at ho16)); replace HO_6 := zA (Kd.V_elder' (by exact zV HO_6) (Kd.R_base ho16) hb); have HO182 := zA (Kd.R_lower ho16 (below_size (by exact zB HB))); replace HB := zA (below_step (by exact zB HB) hb); clear hb ho16; obtain ⟨Ao17, co17, eo17⟩ := Kd.V_slice HO_6.out; subst eo17; obtain ⟨Ao18, co18, eo18⟩ := Kd.R_slice HO182.out; subst eo18) | ((with_reducible refine gate_callee (f := 103) rfl ?_); refine goesL_ (some 37) rfl rfl Try.func103 (by kernel_rfl) rfl #[.slice Ao17 x6_3.length co17, .slice Ao18 y180.length co18] rfl (by (try simp only [List.map_toArray, List.map_cons, List.map_nil]); first | done | rfl | (simp only [List.length_drop, List.length_take]; rfl)) ?_; (with_reducible refine (nat_times.calls k3 _ _ x6_3 _ _ y180 t183 _ ?side1 ?side2 ?side3 ?side4 A13.out).mono ?_); (case side1 => exact zC ((Kd.V_reads' HO_6.out).2.2)); (case side2 => exact (Kd.V_reads' HO_6.out).2.1); (case side3 => exact zC ((Kd.R_reads' HO182.out).2.2)); (case side4 => exact (Kd.R_reads' HO182.out).2.1); rintro e w19 ⟨v184, rfl, ho0, hb⟩; refine ⟨_, rfl, ?_⟩; replace HO_6 := zA (Kd.V_below (by exact zV HO_6) hb); have HO185 := zA (Kd.V_lower (Kd.V_mono (ok' := fun k_ => some k_ ≠ (.slice Ao18 y180.length co18 : Value).ownBlock) ho0 (fun k_ hk_ => (Kd.fresh' (Kd.R_lt (by exact zR HO182)) k_ hk_))) (below_size (by exact zB HB))); replace HO182 := zA (Kd.R_below (by exact zR HO182) hb); replace HB := zA (below_step (by exact zB HB) hb); (try clear hb ho0); obtain ⟨Ao20, co20, eo20⟩ := Kd.V_slice HO185.out; subst eo20) | ((with_reducible refine gate_callee (f := 120) rfl ?_); refine goesL_ (some 41) rfl rfl Try.func120 (by kernel_rfl) rfl #[.slice Ao20 t183.length co20, .int .u32 ((wrap64 (x27_3 + 1)) % 4294967296)] rfl (by (try simp only [List.map_toArray, List.map_cons, List.map_nil]); first | done | rfl | (simp only [List.length_drop, List.length_take]; rfl)) ?_; (with_reducible refine (nat_digit.calls k3 _ _ t183 ((wrap64 (x27_3 + 1)) % 4294967296) t186 t189 _ ?side1 ?side2 A14.out).mono ?_); (case side1 => exact zC ((Kd.V_reads' HO185.out).2.2)); (case side2 => exact (Kd.V_reads' HO185.out).2.1); rintro e w21 ⟨v187, rfl, ho0, hb⟩; refine ⟨_, rfl, ?_⟩; replace HO_6 := zA (Kd.V_below (by exact zV HO_6) hb); replace HO185 := zA (Kd.V_below (by exact zV HO185) hb); have HO188 := zA (Kd.V_lower (Kd.V_mono (ok' := fun k_ => some k_ ≠ (.slice Ao18 y180.length co18 : Value).ownBlock) ho0 (fun k_ hk_ => (Kd.fresh' (Kd.R_lt (by exact zR HO182)) k_ hk_))) (below_size (by exact zB HB))); replace HO182 := zA (Kd.R_below (by exact zR HO182) hb); replace HB := zA (below_step (by exact zB HB) hb); (try clear hb ho0)))
          go_roundg k3
          case measure => have := HJ2.out; have := HJ5.out; have := HK3.out; omega
          case rel => exact ⟨(t186), (wrap64 (x27_3 + 1)), (by first | rfl | (simp; done) | (simp [*]; done)), H', ⟨by have := HJ2.out; have := HJ5.out; have := HK3.out; omega⟩, ⟨by (with_reducible repeat (first | apply Kd.V_alloc | apply Kd.V_drewN | apply Kd.V_drew)); exact Kd.V_mono HO188.out (fun _ hk => trivial)⟩, ⟨by exact zB HB⟩⟩
         ·
          rw [if_neg c12] at H
          have c12b0 : decide (x27_3 < ji9) = false := decide_eq_false c12
          clear c12
          replace H := Option.bind_eq_some_iff.mp H
          obtain ⟨t190, A220, H⟩ := H
          replace H : (some (t190, 0)) = some (r1, r2) := H
          have A22 := zA A220
          clear A220
          simp only [Option.some.injEq, Prod.mk.injEq] at H
          obtain ⟨rfl, rfl⟩ := H
          obtain ⟨Ao23, co23, eo23⟩ := Kd.V_slice HO_6.out
          subst eo23
          go_wp2_with (first | ((with_reducible refine gate_callee (f := 105) rfl ?_); refine goesL_ (some 46) rfl rfl Try.func105 (by kernel_rfl) rfl #[.slice Ao23 x6_3.length co23] rfl (by (try simp only [List.map_toArray, List.map_cons, List.map_nil]); first | done | rfl | (simp only [List.length_drop, List.length_take]; rfl)) ?_; (with_reducible refine (nat_Trim.calls k3 _ _ x6_3 t190 _ ?side1 ?side2 A22.out).mono ?_); (case side1 => exact zC ((Kd.V_reads' HO_6.out).2.2)); (case side2 => exact (Kd.V_reads' HO_6.out).2.1); rintro e w24 ⟨v191, rfl, ho0, hb⟩; refine ⟨_, rfl, ?_⟩; replace HO_6 := zA (Kd.V_elder' (by exact zV HO_6) (Kd.R_base ho0) hb); have HO192 := zA (Kd.R_lower ho0 (below_size (by exact zB HB))); replace HB := zA (below_step (by exact zB HB) hb); (try clear hb ho0)))
          go_ret2
          exact ⟨_, by first | rfl | (simp [errW_none, errW_some] <;> rfl) | (simp only [← hji9]; first | rfl | (simp [errW_none, errW_some] <;> rfl)) | (simp [*, errW_none, errW_some] <;> rfl), by exact zR HO192, by exact zB HB⟩
end Go.Proofs.Ytjignpnnmfdedaa.PChannelPatterns
