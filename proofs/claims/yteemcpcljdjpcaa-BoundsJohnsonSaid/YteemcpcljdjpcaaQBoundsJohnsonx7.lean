/- A part of the print of this row, cut down to what the row uses. -/
import Derived.Test.YteemcpcljdjpcaaQBoundsJohnsonx0
import Derived.Test.YteemcpcljdjpcaaQBoundsJohnsonx1
import Derived.Test.YteemcpcljdjpcaaQBoundsJohnsonx5
import Derived.Test.YteemcpcljdjpcaaQBoundsJohnsonx6
-- printed by a scratch copy of the print, turned (wip/tools/turn_print.py)
namespace Go.Proofs.Yteemcpcljdjpcaa.PBoundsJohnson
open Go.RowKit Go.Proofs.YteemcpcljdjpcaaW.PrintWords Go.Proofs.YteemcpcljdjpcaaW.PrintLast Go.Proofs.YteemcpcljdjpcaaW.PrintMore
attribute [local go_sem] max2_int min2_int max_two min_two max_three min_three max_four min_four   -- for this text's walks alone
set_option linter.unusedVariables false
set_option linter.unusedSimpArgs false
/-! ### nat_plus: function 56 -/
mutual
def nat_plus.j0 : Nat → List Int → List Int → Option (List Int)
  | 0, _, _ => none
  | k + 1, x0, x1 => if 0 ≤ (wrap64 ((x0.length : Int) + 1)) then (if (wrap64 ((x0.length : Int) + 1) : Int).toNat ≤ 70368744177664 then (nat_plus.l0 k x0 x1 (List.replicate (wrap64 ((x0.length : Int) + 1) : Int).toNat 0) 0 (x0.length : Int) 0) else (none)) else (none)
def nat_plus.l0 : Nat → List Int → List Int → List Int → Int → Int → Int → Option (List Int)
  | 0, _, _, _, _, _, _ => none
  | k + 1, x0, x1, x5, x6, x21, x22 => if x22 < x21 then (if 0 ≤ x22 then (if x22 < (x0.length : Int) then (if x22 < (x1.length : Int) then (if x22 < (x5.length : Int) then (nat_plus.l0 k x0 x1 (x5.set (x22 : Int).toNat ((IntKind.u64.wrap ((IntKind.u64.wrap ((IntKind.u64.wrap (rd x0 x22)) + x6)) + (IntKind.u64.wrap (rd x1 x22)))) % 4294967296)) ((IntKind.u64.wrap ((IntKind.u64.wrap ((IntKind.u64.wrap (rd x0 x22)) + x6)) + (IntKind.u64.wrap (rd x1 x22)))) / 4294967296) x21 (wrap64 (x22 + 1))) else (none)) else (if x22 < (x5.length : Int) then (nat_plus.l0 k x0 x1 (x5.set (x22 : Int).toNat ((IntKind.u64.wrap ((IntKind.u64.wrap (rd x0 x22)) + x6)) % 4294967296)) ((IntKind.u64.wrap ((IntKind.u64.wrap (rd x0 x22)) + x6)) / 4294967296) x21 (wrap64 (x22 + 1))) else (none))) else (none)) else (none)) else (if 0 ≤ (x0.length : Int) then (if (x0.length : Int) < (x5.length : Int) then ((nat_short.f k (x5.set ((x0.length : Int) : Int).toNat ((x6) % 4294967296))).bind fun t350 => (some t350)) else (none)) else (none))
end
def nat_plus.f (k : Nat) (l0 : List Int) (l1 : List Int) : Option (List Int) := if (l0.length : Int) < (l1.length : Int) then (nat_plus.j0 k l1 l0) else (nat_plus.j0 k l0 l1)
set_option maxHeartbeats 8000000 in
set_option maxRecDepth 100000 in
theorem nat_plus.calls (k : Nat) (P0_ : Nat → Prop) (A0 : Option Addr) (c0 : Nat) (l0 : List Int) (P1_ : Nat → Prop) (A1 : Option Addr) (c1 : Nat) (l1 : List Int) (r : List Int) (w : World) (hs0 : Kd.V (Kd.int .u32) 41 w w.heap.size (fun k_ => P0_ k_) (.slice A0 l0.length c0) l0) (hs1 : Kd.V (Kd.int .u32) 41 w w.heap.size (fun k_ => P1_ k_) (.slice A1 l1.length c1) l1) (h : nat_plus.f k l0 l1 = some r) :
    Calls Try.prog 56 #[.slice A0 l0.length c0, .slice A1 l1.length c1] w fun e w' => ∃ v0_ : Value, e = .returned (v0_) ∧ Kd.V (Kd.int .u32) 41 w' w.heap.size (fun k_ => ((P0_ k_ ∨ P1_ k_) ∨ w.heap.size ≤ k_)) v0_ r ∧ Below w.heap.size w w' := by
  have HO0 := Aside0.mk (show Kd.V (Kd.int .u32) 41 w w.heap.size (fun k_ => ((P0_ k_ ∨ P1_ k_) ∨ w.heap.size ≤ k_)) (.slice A0 l0.length c0) l0 from Kd.V_mono hs0 (fun k_ hk => .inl (.inl hk)))
  have HO1 := Aside0.mk (show Kd.V (Kd.int .u32) 41 w w.heap.size (fun k_ => ((P0_ k_ ∨ P1_ k_) ∨ w.heap.size ≤ k_)) (.slice A1 l1.length c1) l1 from Kd.V_mono hs1 (fun k_ hk => .inl (.inr hk)))
  have HB := Aside0.mk (Below.refl w.heap.size w)
  have H : (if (l0.length : Int) < (l1.length : Int) then (nat_plus.j0 k l1 l0) else (nat_plus.j0 k l0 l1)) = some r := h
  clear h
  have HC3 := Aside0.mk H
  clear H
  go_enter Try.func56, Try.ntmps56
  go_upto_if 13 with (fail)
  go_cut [0, 1] (fun v0 v1 wc => ∃ (kq : Nat) (x0_2 : List Int) (x1_2 : List Int), Aside0 (nat_plus.j0 kq x0_2 x1_2 = some r) ∧ Aside0 (kq ≤ k) ∧ Aside0 (Kd.V (Kd.int .u32) 41 wc w.heap.size (fun k_ => ((P0_ k_ ∨ P1_ k_) ∨ w.heap.size ≤ k_)) v0 x0_2) ∧ Aside0 (Kd.V (Kd.int .u32) 41 wc w.heap.size (fun k_ => ((P0_ k_ ∨ P1_ k_) ∨ w.heap.size ≤ k_)) v1 x1_2) ∧ Aside0 (Below w.heap.size w wc))
  case first =>
    have H := HC3.out
    clear HC3
    by_cases c4 : (l0.length : Int) < (l1.length : Int)
    · rw [if_pos c4] at H
      have c4b0 : decide ((l0.length : Int) < (l1.length : Int)) = true := decide_eq_true c4
      have c4b1 : decide (l0.length < l1.length) = true := decide_eq_true (Int.ofNat_lt.mp c4)
      clear c4
      (first | rw [c4b0] | (simp only [i64_w, i32_w]; rw [c4b0]) | rw [c4b1] | rw [c4b2] | skip)
      have H' := Aside0.mk H
      clear H
      go_wp2
      go_meet
      case rel => exact ⟨_, (l1), (l0), H', ⟨by first | omega | exact Nat.le_refl _⟩, ⟨by (with_reducible repeat (first | apply Kd.V_alloc | apply Kd.V_drewN | apply Kd.V_drew)); exact HO1.out⟩, ⟨by (with_reducible repeat (first | apply Kd.V_alloc | apply Kd.V_drewN | apply Kd.V_drew)); exact HO0.out⟩, ⟨by repeat (first | (with_reducible first | exact HB.out | apply below_alloc | apply pw_below_drewN | apply below_drew1) | exact HB.out)⟩⟩
    · rw [if_neg c4] at H
      have c4b0 : decide ((l0.length : Int) < (l1.length : Int)) = false := decide_eq_false c4
      have c4b1 : decide (l0.length < l1.length) = false := decide_eq_false (fun h => c4 (Int.ofNat_lt.mpr h))
      clear c4
      (first | rw [c4b0] | (simp only [i64_w, i32_w]; rw [c4b0]) | rw [c4b1] | rw [c4b2] | skip)
      have H' := Aside0.mk H
      clear H
      go_wp2
      go_meet
      case rel => exact ⟨_, (l0), (l1), H', ⟨by first | omega | exact Nat.le_refl _⟩, ⟨by (with_reducible repeat (first | apply Kd.V_alloc | apply Kd.V_drewN | apply Kd.V_drew)); exact HO0.out⟩, ⟨by (with_reducible repeat (first | apply Kd.V_alloc | apply Kd.V_drewN | apply Kd.V_drew)); exact HO1.out⟩, ⟨by repeat (first | (with_reducible first | exact HB.out | apply below_alloc | apply pw_below_drewN | apply below_drew1) | exact HB.out)⟩⟩
  case rest =>
    clear HC3
    try clear c1
    try clear p2
    try clear c4
    try clear c4b0
    try clear c4b1
    obtain ⟨kq, x0_2, x1_2, HA, HJ2, HO_0, HO_1, HB⟩ := hcut
    cases kq with
    | zero => exact absurd HA.out (by simp [nat_plus.j0])
    | succ kj2 =>
      have H := HA.out
      clear HA
      simp only [nat_plus.j0] at H
      obtain ⟨ji5, hji5⟩ : ∃ j_ : Int, (wrap64 ((x0_2.length : Int) + 1)) = j_ := ⟨_, rfl⟩
      replace H : (if 0 ≤ (ji5) then (if (ji5 : Int).toNat ≤ 70368744177664 then (nat_plus.l0 kj2 x0_2 x1_2 (List.replicate (ji5 : Int).toNat 0) 0 (x0_2.length : Int) 0) else (none)) else (none)) = some r := by first | (rw [hji5] at H; exact H) | (simp only [hji5] at H ⊢; exact H)
      have hji5w : (IntKind.i64.wrap ((x0_2.length : Int) + 1)) = ji5 := (i64_w _).trans hji5
      by_cases c6 : 0 ≤ (ji5)
      · rw [if_pos c6] at H
        have c6b0 := eq_true c6
        have c6b1 : decide (0 ≤ (ji5)) = true := decide_eq_true c6
        clear c6
        by_cases c7 : (ji5 : Int).toNat ≤ 70368744177664
        · rw [if_pos c7] at H
          have c7b0 := eq_true c7
          have c7b1 : decide ((ji5 : Int).toNat ≤ 70368744177664) = true := decide_eq_true c7
          clear c7
          obtain ⟨y342, hy342⟩ : ∃ y_ : List Int, y_ = (List.replicate (ji5 : Int).toNat 0) := ⟨_, rfl⟩
          replace H : (nat_plus.l0 kj2 x0_2 x1_2 y342 0 (x0_2.length : Int) 0) = some r := by first | (rw [hy342]; with_reducible exact H) | (have H2_ := (Option.bind_some _ _).symm.trans H; rw [hy342]; with_reducible exact H2_) | (have H2_ := (Option.bind_some _ _).symm.trans H; with_reducible exact H2_) | with_reducible exact H | (rw [hy342]; exact H) | exact H
          have Ny342 := Aside0.mk hy342
          clear hy342
          have H' := Aside0.mk H
          clear H
          obtain ⟨Ao8, co8, eo8⟩ := Kd.V_slice HO_0.out
          subst eo8
          go_wp2_with (first | ((with_reducible refine gate_dst (N := 19) rfl ?_); refine Kd.R_make (Kd.int .u32) _ 41 rfl (N := 19) rfl 23 _ _ rfl ji5 rfl rfl Try.underlying23 (.int .u32 0) 4 info41 rfl (by decide) (by omega) 0 (ok := fun _ => True) (okp := fun _ => True) rfl (fun _ hk => hk) trivial (of_decide_eq_true (by first | (with_reducible assumption) | assumption)) (Nat.le_trans (Nat.mul_le_mul_right _ (of_decide_eq_true (by first | (with_reducible assumption) | assumption) : ji5.toNat ≤ 70368744177664)) (by omega)) (Below.refl _ _) (Nat.le_refl _) ?_; intro v343 w9 ho10 hb hg_ hnew_; clear hg_ hnew_; (first | rw [← Ny342.out] at ho10 | (simp only [Int.reduceToNat] at ho10; rw [← Ny342.out] at ho10)); have n0_ := Aside0.mk (Kd.V_elder' (by (with_reducible repeat (first | apply Kd.V_alloc | apply Kd.V_drewN | apply Kd.V_drew)); exact HO_0.out) (Kd.R_base ho10) hb); have n1_ := Aside0.mk (Kd.V_elder' (by (with_reducible repeat (first | apply Kd.V_alloc | apply Kd.V_drewN | apply Kd.V_drew)); exact HO_1.out) (Kd.R_base ho10) hb); have n2_ := Aside0.mk (Kd.R_lower (Kd.R_newM (M := fun k_ => (w.heap.size ≤ k_)) ho10 (below_size (by repeat (first | (with_reducible first | exact HB.out | apply below_alloc | apply pw_below_drewN | apply below_drew1) | exact HB.out))) (fun k_ h_ => h_)) (below_size (by repeat (first | (with_reducible first | exact HB.out | apply below_alloc | apply pw_below_drewN | apply below_drew1) | exact HB.out)))); have n3_ := Aside0.mk (below_step (by repeat (first | (with_reducible first | exact HB.out | apply below_alloc | apply pw_below_drewN | apply below_drew1) | exact HB.out)) hb); clear HO_0; clear HO_1; clear HB; have HO_0 := n0_; have HO_1 := n1_; have HO344 := n2_; have HB := n3_; clear n0_ n1_ n2_ n3_; clear hb ho10))
          go_loopg [6, 22] kj2 (fun kq v6 v22 w' => ∃ (x5_2 : List Int) (x6_2 : Int) (x22_2 : Int), v6 = .int .u64 x6_2 ∧ v22 = .int .i64 x22_2 ∧ Aside0 (nat_plus.l0 kq x0_2 x1_2 x5_2 x6_2 (x0_2.length : Int) x22_2 = some r) ∧ Aside0 (kq ≤ kj2) ∧ Aside0 (Kd.V (Kd.int .u32) 41 w' w.heap.size (fun k_ => ((P0_ k_ ∨ P1_ k_) ∨ w.heap.size ≤ k_) ∧ some k_ ≠ (v343 : Value).ownBlock) (.slice Ao8 x0_2.length co8) x0_2) ∧ Aside0 (Kd.V (Kd.int .u32) 41 w' w.heap.size (fun k_ => ((P0_ k_ ∨ P1_ k_) ∨ w.heap.size ≤ k_) ∧ some k_ ≠ (v343 : Value).ownBlock) u1 x1_2) ∧ Aside0 (Kd.R (Kd.int .u32) 41 w' w.heap.size (fun k_ => (w.heap.size ≤ k_)) v343 x5_2) ∧ Aside0 (Below w.heap.size w w'))
          case atStart => exact ⟨(y342), (0), (0), (by first | rfl | (simp; done) | (simp [*]; done)), (by first | rfl | (simp; done) | (simp [*]; done)), H', ⟨Nat.le_refl _⟩, ⟨by (with_reducible repeat (first | apply Kd.V_alloc | apply Kd.V_drewN | apply Kd.V_drew)); exact HO_0.out⟩, ⟨by (with_reducible repeat (first | apply Kd.V_alloc | apply Kd.V_drewN | apply Kd.V_drew)); exact HO_1.out⟩, ⟨by (with_reducible repeat (first | apply Kd.R_alloc | apply Kd.R_drewN | apply Kd.R_drew)); exact Kd.R_mono HO344.out (fun _ hk => hk.1)⟩, ⟨by repeat (first | (with_reducible first | exact HB.out | apply below_alloc | apply pw_below_drewN | apply below_drew1) | exact HB.out)⟩⟩
          case round =>
            clear H'
            try clear c1
            try clear p2
            try clear c4
            try clear c4b0
            try clear c4b1
            try clear c5
            try clear c6
            try clear c6b0
            try clear c6b1
            try clear p6
            try clear c7
            try clear c7b0
            try clear c7b1
            try clear p2
            obtain ⟨x5_2, x6_2, x22_2, rfl, rfl, HA, HK2, HO_0, HO_1, HO_5, HB⟩ := hrel
            cases gk with
            | zero => exact absurd HA.out (by simp [nat_plus.l0])
            | succ k2 =>
              have H := HA.out
              clear HA
              simp only [nat_plus.l0] at H
              by_cases c11 : x22_2 < (x0_2.length : Int)
              · rw [if_pos c11] at H
                have c11b0 : decide (x22_2 < (x0_2.length : Int)) = true := decide_eq_true c11
                clear c11
                by_cases c12 : 0 ≤ x22_2
                · rw [if_pos c12] at H
                  have c12b0 : decide (0 ≤ x22_2) = true := decide_eq_true c12
                  clear c12
                  by_cases c13 : x22_2 < (x0_2.length : Int)
                  · rw [if_pos c13] at H
                    have c13b0 : decide (x22_2 < (x0_2.length : Int)) = true := decide_eq_true c13
                    clear c13
                    by_cases c14 : x22_2 < (x1_2.length : Int)
                    · rw [if_pos c14] at H
                      have c14b0 : decide (x22_2 < (x1_2.length : Int)) = true := decide_eq_true c14
                      clear c14
                      by_cases c15 : x22_2 < (x5_2.length : Int)
                      · rw [if_pos c15] at H
                        have c15b0 : decide (x22_2 < (x5_2.length : Int)) = true := decide_eq_true c15
                        clear c15
                        obtain ⟨y347, hy347⟩ : ∃ y_ : List Int, y_ = (x5_2.set (x22_2 : Int).toNat ((IntKind.u64.wrap ((IntKind.u64.wrap ((IntKind.u64.wrap (rd x0_2 x22_2)) + x6_2)) + (IntKind.u64.wrap (rd x1_2 x22_2)))) % 4294967296)) := ⟨_, rfl⟩
                        replace H : (nat_plus.l0 k2 x0_2 x1_2 y347 ((IntKind.u64.wrap ((IntKind.u64.wrap ((IntKind.u64.wrap (rd x0_2 x22_2)) + x6_2)) + (IntKind.u64.wrap (rd x1_2 x22_2)))) / 4294967296) (x0_2.length : Int) (wrap64 (x22_2 + 1))) = some r := by first | (rw [hy347]; with_reducible exact H) | (have H2_ := (Option.bind_some _ _).symm.trans H; rw [hy347]; with_reducible exact H2_) | (have H2_ := (Option.bind_some _ _).symm.trans H; with_reducible exact H2_) | with_reducible exact H | (rw [hy347]; exact H) | exact H
                        have Ny347 := Aside0.mk hy347
                        clear hy347
                        have H' := Aside0.mk H
                        clear H
                        have p345 : 0 ≤ (x22_2 : Int) := of_decide_eq_true (by first | (with_reducible assumption) | assumption)
                        have q345 : x22_2 < (x0_2.length : Int) := of_decide_eq_true (by first | (with_reducible assumption) | assumption)
                        obtain ⟨ad345, e345, hx345_0⟩ := Kd.at_int (Kd.V_reads' HO_0.out).2.2 x22_2 p345 q345
                        cases e345
                        replace p345 := eq_true p345
                        replace q345 := eq_true q345
                        obtain ⟨Ao17, co17, eo17⟩ := Kd.V_slice HO_1.out
                        subst eo17
                        have p346 : 0 ≤ (x22_2 : Int) := of_decide_eq_true (by first | (with_reducible assumption) | assumption)
                        have q346 : x22_2 < (x1_2.length : Int) := of_decide_eq_true (by first | (with_reducible assumption) | assumption)
                        obtain ⟨ad346, e346, hx346_0⟩ := Kd.at_int (Kd.V_reads' HO_1.out).2.2 x22_2 p346 q346
                        cases e346
                        replace p346 := eq_true p346
                        replace q346 := eq_true q346
                        have p16 : 0 ≤ (x22_2 : Int) := of_decide_eq_true (by first | (with_reducible assumption) | assumption)
                        have q16 : (x22_2 : Int) < ((x5_2.length : Int) : Int) := of_decide_eq_true (by first | (with_reducible assumption) | assumption)
                        obtain ⟨go16, co16, eo16, gb16, gl16, cl16, HG16⟩ := Kd.R_form HO_5.out (by omega)
                        (first | cases eo16 | (injection eo16 with ea_ en_ ec_; (first | subst ea_ | (injection ea_ with ea_; subst ea_)); subst ec_; clear en_))
                        have GB16 := Aside0.mk gb16
                        have GG16 := Aside0.mk HG16
                        clear gb16 gl16 HG16
                        obtain ⟨hx16_0, hf16_0⟩ := Kd.R_celln 0 HO_5.out (x22_2 : Int) p16 q16
                        replace p16 := eq_true p16
                        replace q16 := eq_true q16
                        have HP18 := Kd.R_putg HO_5.out (x22_2 : Int) ((IntKind.u64.wrap ((IntKind.u64.wrap ((IntKind.u64.wrap (rd x0_2 x22_2)) + x6_2)) + (IntKind.u64.wrap (rd x1_2 x22_2)))) % 4294967296)
                        go_wp2_with (first | ((with_reducible refine gate_store (t := 41) (p := 47) rfl ?_); refine store_event (t := 41) (p := 47) (v := ?vo_w19) (w1 := (wr.setCell ⟨go16, (x22_2 : Int).toNat, none⟩ (.int .u32 ((IntKind.u64.wrap ((IntKind.u64.wrap ((IntKind.u64.wrap (rd x0_2 x22_2)) + x6_2)) + (IntKind.u64.wrap (rd x1_2 x22_2)))) % 4294967296)))) ?hg ?ho ?hn ?hr ?_; (case ho => rfl); (case hg => rfl); (case hn => rfl); (case hr => first | (go_simp; done) | (go_simp; rfl)); intro w19 hw; have hg : wr.grownBy w19 (some go16) := (by rw [hw]; exact HP18.2); have hp_ : Kd.R (Kd.int .u32) 41 w19 w.heap.size (fun k_ => (w.heap.size ≤ k_)) (.slice (some ⟨go16, 0, none⟩) x5_2.length co16) y347 := (by rw [hw, Ny347.out]; exact HP18.1); clear HP18; have n0_ := Aside0.mk (Kd.V_afterv (v := (.slice (some ⟨go16, 0, none⟩) x5_2.length co16)) (v1 := (.slice (some ⟨go16, 0, none⟩) x5_2.length co16)) (ok := (fun k_ => ((P0_ k_ ∨ P1_ k_) ∨ w.heap.size ≤ k_))) (by (with_reducible repeat (first | apply Kd.V_alloc | apply Kd.V_drewN | apply Kd.V_drew)); exact HO_0.out) hg (.inl rfl)); have n1_ := Aside0.mk (Kd.V_afterv (v := (.slice (some ⟨go16, 0, none⟩) x5_2.length co16)) (v1 := (.slice (some ⟨go16, 0, none⟩) x5_2.length co16)) (ok := (fun k_ => ((P0_ k_ ∨ P1_ k_) ∨ w.heap.size ≤ k_))) (by (with_reducible repeat (first | apply Kd.V_alloc | apply Kd.V_drewN | apply Kd.V_drew)); exact HO_1.out) hg (.inl rfl)); have n2_ := Aside0.mk (hp_); have n3_ := Aside0.mk ((by rw [hw]; exact below_set (HB.out) GB16.out : Below w.heap.size w w19)); clear HO_0; clear HO_1; clear HO_5; clear HB; have HO_0 := n0_; have HO_1 := n1_; have HO_5 := n2_; have HB := n3_; clear n0_ n1_ n2_ n3_; clear hg hw hp_))
                        go_roundg k2
                        case measure => have := HJ2.out; have := HK2.out; omega
                        case rel => exact ⟨(y347), ((IntKind.u64.wrap ((IntKind.u64.wrap ((IntKind.u64.wrap (rd x0_2 x22_2)) + x6_2)) + (IntKind.u64.wrap (rd x1_2 x22_2)))) / 4294967296), (wrap64 (x22_2 + 1)), (by first | rfl | (simp; done) | (simp [*]; done)), (by first | rfl | (simp; done) | (simp [*]; done)), H', ⟨by have := HJ2.out; have := HK2.out; omega⟩, ⟨by (with_reducible repeat (first | apply Kd.V_alloc | apply Kd.V_drewN | apply Kd.V_drew)); exact HO_0.out⟩, ⟨by (with_reducible repeat (first | apply Kd.V_alloc | apply Kd.V_drewN | apply Kd.V_drew)); exact HO_1.out⟩, ⟨by (with_reducible repeat (first | apply Kd.R_alloc | apply Kd.R_drewN | apply Kd.R_drew)); exact HO_5.out⟩, ⟨by repeat (first | (with_reducible first | exact HB.out | apply below_alloc | apply pw_below_drewN | apply below_drew1) | exact HB.out)⟩⟩
                      · rw [if_neg c15] at H
                        exact absurd H (by simp)
                    · rw [if_neg c14] at H
                      have c14b0 : decide (x22_2 < (x1_2.length : Int)) = false := decide_eq_false c14
                      clear c14
                      by_cases c20 : x22_2 < (x5_2.length : Int)
                      · rw [if_pos c20] at H
                        have c20b0 : decide (x22_2 < (x5_2.length : Int)) = true := decide_eq_true c20
                        clear c20
                        obtain ⟨y348, hy348⟩ : ∃ y_ : List Int, y_ = (x5_2.set (x22_2 : Int).toNat ((IntKind.u64.wrap ((IntKind.u64.wrap (rd x0_2 x22_2)) + x6_2)) % 4294967296)) := ⟨_, rfl⟩
                        replace H : (nat_plus.l0 k2 x0_2 x1_2 y348 ((IntKind.u64.wrap ((IntKind.u64.wrap (rd x0_2 x22_2)) + x6_2)) / 4294967296) (x0_2.length : Int) (wrap64 (x22_2 + 1))) = some r := by first | (rw [hy348]; with_reducible exact H) | (have H2_ := (Option.bind_some _ _).symm.trans H; rw [hy348]; with_reducible exact H2_) | (have H2_ := (Option.bind_some _ _).symm.trans H; with_reducible exact H2_) | with_reducible exact H | (rw [hy348]; exact H) | exact H
                        have Ny348 := Aside0.mk hy348
                        clear hy348
                        have H' := Aside0.mk H
                        clear H
                        have p345 : 0 ≤ (x22_2 : Int) := of_decide_eq_true (by first | (with_reducible assumption) | assumption)
                        have q345 : x22_2 < (x0_2.length : Int) := of_decide_eq_true (by first | (with_reducible assumption) | assumption)
                        obtain ⟨ad345, e345, hx345_0⟩ := Kd.at_int (Kd.V_reads' HO_0.out).2.2 x22_2 p345 q345
                        cases e345
                        replace p345 := eq_true p345
                        replace q345 := eq_true q345
                        obtain ⟨Ao22, co22, eo22⟩ := Kd.V_slice HO_1.out
                        subst eo22
                        have p21 : 0 ≤ (x22_2 : Int) := of_decide_eq_true (by first | (with_reducible assumption) | assumption)
                        have q21 : (x22_2 : Int) < ((x5_2.length : Int) : Int) := of_decide_eq_true (by first | (with_reducible assumption) | assumption)
                        obtain ⟨go21, co21, eo21, gb21, gl21, cl21, HG21⟩ := Kd.R_form HO_5.out (by omega)
                        (first | cases eo21 | (injection eo21 with ea_ en_ ec_; (first | subst ea_ | (injection ea_ with ea_; subst ea_)); subst ec_; clear en_))
                        have GB21 := Aside0.mk gb21
                        have GG21 := Aside0.mk HG21
                        clear gb21 gl21 HG21
                        obtain ⟨hx21_0, hf21_0⟩ := Kd.R_celln 0 HO_5.out (x22_2 : Int) p21 q21
                        replace p21 := eq_true p21
                        replace q21 := eq_true q21
                        have HP23 := Kd.R_putg HO_5.out (x22_2 : Int) ((IntKind.u64.wrap ((IntKind.u64.wrap (rd x0_2 x22_2)) + x6_2)) % 4294967296)
                        go_wp2_with (first | ((with_reducible refine gate_store (t := 41) (p := 47) rfl ?_); refine store_event (t := 41) (p := 47) (v := ?vo_w24) (w1 := (wr.setCell ⟨go21, (x22_2 : Int).toNat, none⟩ (.int .u32 ((IntKind.u64.wrap ((IntKind.u64.wrap (rd x0_2 x22_2)) + x6_2)) % 4294967296)))) ?hg ?ho ?hn ?hr ?_; (case ho => rfl); (case hg => rfl); (case hn => rfl); (case hr => first | (go_simp; done) | (go_simp; rfl)); intro w24 hw; have hg : wr.grownBy w24 (some go21) := (by rw [hw]; exact HP23.2); have hp_ : Kd.R (Kd.int .u32) 41 w24 w.heap.size (fun k_ => (w.heap.size ≤ k_)) (.slice (some ⟨go21, 0, none⟩) x5_2.length co21) y348 := (by rw [hw, Ny348.out]; exact HP23.1); clear HP23; have n0_ := Aside0.mk (Kd.V_afterv (v := (.slice (some ⟨go21, 0, none⟩) x5_2.length co21)) (v1 := (.slice (some ⟨go21, 0, none⟩) x5_2.length co21)) (ok := (fun k_ => ((P0_ k_ ∨ P1_ k_) ∨ w.heap.size ≤ k_))) (by (with_reducible repeat (first | apply Kd.V_alloc | apply Kd.V_drewN | apply Kd.V_drew)); exact HO_0.out) hg (.inl rfl)); have n1_ := Aside0.mk (Kd.V_afterv (v := (.slice (some ⟨go21, 0, none⟩) x5_2.length co21)) (v1 := (.slice (some ⟨go21, 0, none⟩) x5_2.length co21)) (ok := (fun k_ => ((P0_ k_ ∨ P1_ k_) ∨ w.heap.size ≤ k_))) (by (with_reducible repeat (first | apply Kd.V_alloc | apply Kd.V_drewN | apply Kd.V_drew)); exact HO_1.out) hg (.inl rfl)); have n2_ := Aside0.mk (hp_); have n3_ := Aside0.mk ((by rw [hw]; exact below_set (HB.out) GB21.out : Below w.heap.size w w24)); clear HO_0; clear HO_1; clear HO_5; clear HB; have HO_0 := n0_; have HO_1 := n1_; have HO_5 := n2_; have HB := n3_; clear n0_ n1_ n2_ n3_; clear hg hw hp_))
                        go_roundg k2
                        case measure => have := HJ2.out; have := HK2.out; omega
                        case rel => exact ⟨(y348), ((IntKind.u64.wrap ((IntKind.u64.wrap (rd x0_2 x22_2)) + x6_2)) / 4294967296), (wrap64 (x22_2 + 1)), (by first | rfl | (simp; done) | (simp [*]; done)), (by first | rfl | (simp; done) | (simp [*]; done)), H', ⟨by have := HJ2.out; have := HK2.out; omega⟩, ⟨by (with_reducible repeat (first | apply Kd.V_alloc | apply Kd.V_drewN | apply Kd.V_drew)); exact HO_0.out⟩, ⟨by (with_reducible repeat (first | apply Kd.V_alloc | apply Kd.V_drewN | apply Kd.V_drew)); exact HO_1.out⟩, ⟨by (with_reducible repeat (first | apply Kd.R_alloc | apply Kd.R_drewN | apply Kd.R_drew)); exact HO_5.out⟩, ⟨by repeat (first | (with_reducible first | exact HB.out | apply below_alloc | apply pw_below_drewN | apply below_drew1) | exact HB.out)⟩⟩
                      · rw [if_neg c20] at H
                        exact absurd H (by simp)
                  · rw [if_neg c13] at H
                    exact absurd H (by simp)
                · rw [if_neg c12] at H
                  exact absurd H (by simp)
              · rw [if_neg c11] at H
                have c11b0 : decide (x22_2 < (x0_2.length : Int)) = false := decide_eq_false c11
                clear c11
                by_cases c25 : 0 ≤ (x0_2.length : Int)
                · rw [if_pos c25] at H
                  have c25b0 : decide (0 ≤ (x0_2.length : Int)) = true := decide_eq_true c25
                  have c25b1 : decide (0 ≤ x0_2.length) = true := decide_eq_true (by omega)
                  clear c25
                  by_cases c26 : (x0_2.length : Int) < (x5_2.length : Int)
                  · rw [if_pos c26] at H
                    have c26b0 : decide ((x0_2.length : Int) < (x5_2.length : Int)) = true := decide_eq_true c26
                    have c26b1 : decide (x0_2.length < x5_2.length) = true := decide_eq_true (Int.ofNat_lt.mp c26)
                    clear c26
                    obtain ⟨y349, hy349⟩ : ∃ y_ : List Int, y_ = (x5_2.set ((x0_2.length : Int) : Int).toNat ((x6_2) % 4294967296)) := ⟨_, rfl⟩
                    replace H : ((nat_short.f k2 y349).bind fun t350 => (some t350)) = some r := by first | (rw [hy349]; with_reducible exact H) | (have H2_ := (Option.bind_some _ _).symm.trans H; rw [hy349]; with_reducible exact H2_) | (have H2_ := (Option.bind_some _ _).symm.trans H; with_reducible exact H2_) | with_reducible exact H | (rw [hy349]; exact H) | exact H
                    have Ny349 := Aside0.mk hy349
                    clear hy349
                    replace H := Option.bind_eq_some_iff.mp H
                    obtain ⟨t350, A280, H⟩ := H
                    replace H : (some t350) = some r := H
                    have A28 := Aside0.mk A280
                    clear A280
                    obtain rfl := Option.some.inj H
                    have p27 : 0 ≤ ((x0_2.length : Int) : Int) := of_decide_eq_true (by first | (with_reducible assumption) | assumption)
                    have q27 : ((x0_2.length : Int) : Int) < ((x5_2.length : Int) : Int) := of_decide_eq_true (by first | (with_reducible assumption) | assumption)
                    obtain ⟨go27, co27, eo27, gb27, gl27, cl27, HG27⟩ := Kd.R_form HO_5.out (by omega)
                    (first | cases eo27 | (injection eo27 with ea_ en_ ec_; (first | subst ea_ | (injection ea_ with ea_; subst ea_)); subst ec_; clear en_))
                    have GB27 := Aside0.mk gb27
                    have GG27 := Aside0.mk HG27
                    clear gb27 gl27 HG27
                    obtain ⟨hx27_0, hf27_0⟩ := Kd.R_celln 0 HO_5.out ((x0_2.length : Int) : Int) p27 q27
                    (try simp only [Int.toNat_natCast] at hx27_0 hf27_0)
                    replace p27 := eq_true p27
                    replace q27 := eq_true q27
                    have HP29 := Kd.R_putg HO_5.out ((x0_2.length : Int) : Int) ((x6_2) % 4294967296)
                    go_wp2_with (first | ((with_reducible refine gate_store (t := 41) (p := 56) rfl ?_); refine store_event (t := 41) (p := 56) (v := ?vo_w30) (w1 := (wr.setCell ⟨go27, ((x0_2.length : Int) : Int).toNat, none⟩ (.int .u32 ((x6_2) % 4294967296)))) ?hg ?ho ?hn ?hr ?_; (case ho => rfl); (case hg => rfl); (case hn => rfl); (case hr => first | (go_simp; done) | (go_simp; rfl)); intro w30 hw; have hg : wr.grownBy w30 (some go27) := (by rw [hw]; exact HP29.2); have hp_ : Kd.R (Kd.int .u32) 41 w30 w.heap.size (fun k_ => (w.heap.size ≤ k_)) (.slice (some ⟨go27, 0, none⟩) x5_2.length co27) y349 := (by rw [hw, Ny349.out]; exact HP29.1); clear HP29; have n0_ := Aside0.mk (Kd.V_afterv (v := (.slice (some ⟨go27, 0, none⟩) x5_2.length co27)) (v1 := (.slice (some ⟨go27, 0, none⟩) x5_2.length co27)) (ok := (fun k_ => ((P0_ k_ ∨ P1_ k_) ∨ w.heap.size ≤ k_))) (by (with_reducible repeat (first | apply Kd.V_alloc | apply Kd.V_drewN | apply Kd.V_drew)); exact HO_0.out) hg (.inl rfl)); have n1_ := Aside0.mk (Kd.V_afterv (v := (.slice (some ⟨go27, 0, none⟩) x5_2.length co27)) (v1 := (.slice (some ⟨go27, 0, none⟩) x5_2.length co27)) (ok := (fun k_ => ((P0_ k_ ∨ P1_ k_) ∨ w.heap.size ≤ k_))) (by (with_reducible repeat (first | apply Kd.V_alloc | apply Kd.V_drewN | apply Kd.V_drew)); exact HO_1.out) hg (.inl rfl)); have n2_ := Aside0.mk (hp_); have n3_ := Aside0.mk ((by rw [hw]; exact below_set (HB.out) GB27.out : Below w.heap.size w w30)); clear HO_0; clear HO_1; clear HO_5; clear HB; have HO_0 := n0_; have HO_1 := n1_; have HO_5 := n2_; have HB := n3_; clear n0_ n1_ n2_ n3_; clear hg hw hp_) | ((with_reducible refine gate_callee (f := 50) rfl ?_); refine goesL_ (some 58) rfl rfl Try.func50 (by kernel_rfl) rfl #[.slice (some ⟨go27, 0, none⟩) y349.length co27] rfl (by (try simp only [List.map_toArray, List.map_cons, List.map_nil]); first | done | (rw [show y349.length = x5_2.length from (Kd.R_reads' HO_5.out).1.symm] <;> rfl) | rfl | (simp only [List.length_drop, List.length_take]; rfl)) ?_; (with_reducible refine (nat_short.calls k2 (fun k_ => some k_ = (.slice (some ⟨go27, 0, none⟩) x5_2.length co27 : Value).ownBlock) _ _ y349 t350 _ ?side1 A28.out).mono ?_); (case side1 => rw [show y349.length = x5_2.length from (Kd.R_reads' HO_5.out).1.symm]; exact Kd.R_V (Kd.R_tight rfl (HO_5.out))); rintro e w31 ⟨v351, rfl, ho0, hb⟩; refine ⟨_, rfl, ?_⟩; have n0_ := Aside0.mk (Kd.V_below (by (with_reducible repeat (first | apply Kd.V_alloc | apply Kd.V_drewN | apply Kd.V_drew)); exact HO_0.out) hb); have n1_ := Aside0.mk (Kd.V_below (by (with_reducible repeat (first | apply Kd.V_alloc | apply Kd.V_drewN | apply Kd.V_drew)); exact HO_1.out) hb); have n2_ := Aside0.mk (Kd.R_below (by (with_reducible repeat (first | apply Kd.R_alloc | apply Kd.R_drewN | apply Kd.R_drew)); exact HO_5.out) hb); have n3_ := Aside0.mk (Kd.V_lower (Kd.V_mono (ok' := fun k_ => ((P0_ k_ ∨ P1_ k_) ∨ w.heap.size ≤ k_)) ho0 (fun k_ hk_ => Or.elim hk_ (fun hs_ => (.inr (((HO_5.out).1 k_ hs_.symm)))) (fun hn_ => (.inr (Nat.le_trans (below_size (by repeat (first | (with_reducible first | exact HB.out | apply below_alloc | apply pw_below_drewN | apply below_drew1) | exact HB.out))) hn_))))) (below_size (by repeat (first | (with_reducible first | exact HB.out | apply below_alloc | apply pw_below_drewN | apply below_drew1) | exact HB.out)))); have n4_ := Aside0.mk (below_step (by repeat (first | (with_reducible first | exact HB.out | apply below_alloc | apply pw_below_drewN | apply below_drew1) | exact HB.out)) hb); clear HO_0; clear HO_1; clear HO_5; clear HB; have HO_0 := n0_; have HO_1 := n1_; have HO_5 := n2_; have HO352 := n3_; have HB := n4_; clear n0_ n1_ n2_ n3_ n4_; (try clear hb); (try clear hb2); (try clear hk); (try clear hi); (try clear ho0)))
                    go_ret
                    exact ⟨_, by first | rfl | (simp [errW_none, errW_some] <;> rfl) | (simp only [← hji5]; first | rfl | (simp [errW_none, errW_some] <;> rfl)) | (simp [*, errW_none, errW_some] <;> rfl), by (with_reducible repeat (first | apply Kd.V_alloc | apply Kd.V_drewN | apply Kd.V_drew)); exact HO352.out, by repeat (first | (with_reducible first | exact HB.out | apply below_alloc | apply pw_below_drewN | apply below_drew1) | exact HB.out)⟩
                  · rw [if_neg c26] at H
                    exact absurd H (by simp)
                · rw [if_neg c25] at H
                  exact absurd H (by simp)
        · rw [if_neg c7] at H
          exact absurd H (by simp)
      · rw [if_neg c6] at H
        exact absurd H (by simp)
/-! ### nat_Add: function 42 -/
def nat_Add.l0 : Nat → List Int → List (List Int) → Int → Int → Option (List Int)
  | 0, _, _, _, _ => none
  | k + 1, x3, x6, x7, x8 => if x8 < x7 then (if 0 ≤ x8 then (if x8 < (x6.length : Int) then ((nat_short.f k (rd_L1 x6 x8)).bind fun t354 => ((nat_plus.f k x3 t354).bind fun t357 => (nat_Add.l0 k t357 x6 x7 (wrap64 (x8 + 1))))) else (none)) else (none)) else ((nat_Trim.f k x3).bind fun t360 => (some t360))
def nat_Add.f (k : Nat) (l0 : List (List Int)) : Option (List Int) := nat_Add.l0 k ([] : List Int) l0 (l0.length : Int) 0
set_option maxHeartbeats 8000000 in
set_option maxRecDepth 100000 in
theorem nat_Add.calls (k : Nat) (A0 : Option Addr) (c0 : Nat) (l0 : List (List Int)) (r : List Int) (w : World) (hr0 : Kd.C (Kd.slice 41 (Kd.int .u32)) w A0 l0.length l0) (hc0 : l0.length ≤ c0) (h : nat_Add.f k l0 = some r) :
    Calls Try.prog 42 #[.slice A0 l0.length c0] w fun e w' => ∃ v0_ : Value, e = .returned (v0_) ∧ Kd.R (Kd.int .u32) 41 w' w.heap.size (fun _ => True) v0_ r ∧ Below w.heap.size w w' := by
  have HR0 := Aside0.mk hr0
  have HC0 := Aside0.mk hc0
  clear hr0 hc0
  have HB := Aside0.mk (Below.refl w.heap.size w)
  have H : (nat_Add.l0 k ([] : List Int) l0 (l0.length : Int) 0) = some r := h
  clear h
  have H' := Aside0.mk H
  clear H
  go_enter Try.func42, Try.ntmps42
  go_wp2
  go_loopg [3, 8] k (fun kq v3 v8 w' => ∃ (x3_1 : List Int) (x8_1 : Int), v8 = .int .i64 x8_1 ∧ Aside0 (nat_Add.l0 kq x3_1 l0 (l0.length : Int) x8_1 = some r) ∧ Aside0 (kq ≤ k) ∧ Aside0 (Kd.V (Kd.int .u32) 41 w' w.heap.size (fun _ => True) v3 x3_1) ∧ Aside0 (Below w.heap.size w w'))
  case atStart => exact ⟨(([] : List Int)), (0), (by first | rfl | (simp; done) | (simp [*]; done)), H', ⟨Nat.le_refl _⟩, ⟨Kd.R_V (base := 0) (by first | exact Kd.R_nil _ _ _ _ _ | exact Kd.N_nil _ _ _ _ _ | exact Kd.V_nil _ _ _ _ _ | exact Kd.Q_nil _ _ _ _ _ | exact Kd.S_nil _ _ _ _ _)⟩, ⟨by repeat (first | (with_reducible first | exact HB.out | apply below_alloc | apply pw_below_drewN | apply below_drew1) | exact HB.out)⟩⟩
  case round =>
    clear H'
    obtain ⟨x3_1, x8_1, rfl, HA, HK1, HO_3, HB⟩ := hrel
    cases gk with
    | zero => exact absurd HA.out (by simp [nat_Add.l0])
    | succ k1 =>
      have H := HA.out
      clear HA
      simp only [nat_Add.l0] at H
      by_cases c2 : x8_1 < (l0.length : Int)
      · rw [if_pos c2] at H
        have c2b0 : decide (x8_1 < (l0.length : Int)) = true := decide_eq_true c2
        clear c2
        by_cases c3 : 0 ≤ x8_1
        · rw [if_pos c3] at H
          have c3b0 : decide (0 ≤ x8_1) = true := decide_eq_true c3
          clear c3
          by_cases c4 : x8_1 < (l0.length : Int)
          · rw [if_pos c4] at H
            have c4b0 : decide (x8_1 < (l0.length : Int)) = true := decide_eq_true c4
            clear c4
            replace H := Option.bind_eq_some_iff.mp H
            obtain ⟨t354, A50, H⟩ := H
            replace H : ((nat_plus.f k1 x3_1 t354).bind fun t357 => (nat_Add.l0 k1 t357 l0 (l0.length : Int) (wrap64 (x8_1 + 1)))) = some r := H
            have A5 := Aside0.mk A50
            clear A50
            replace H := Option.bind_eq_some_iff.mp H
            obtain ⟨t357, A60, H⟩ := H
            replace H : (nat_Add.l0 k1 t357 l0 (l0.length : Int) (wrap64 (x8_1 + 1))) = some r := H
            have A6 := Aside0.mk A60
            clear A60
            have H' := Aside0.mk H
            clear H
            have p353 : 0 ≤ (x8_1 : Int) := of_decide_eq_true (by first | (with_reducible assumption) | assumption)
            have q353 : x8_1 < (l0.length : Int) := of_decide_eq_true (by first | (with_reducible assumption) | assumption)
            obtain ⟨ad353, A353_0, c353_0, e353, hx353_0, hl353_0, hi353_0⟩ := at_L1 HR0.out x8_1 p353 q353
            cases e353
            replace hx353_0 := (HB.out.cell (World.block_lt_of_cell? w _ hx353_0)).trans hx353_0
            have HR353_0 := Aside0.mk hi353_0
            have HC353_0 := Aside0.mk hl353_0
            clear hi353_0 hl353_0
            replace p353 := eq_true p353
            replace q353 := eq_true q353
            go_wp2_with (first | ((with_reducible refine gate_callee (f := 50) rfl ?_); refine goesL_ (some 14) rfl rfl Try.func50 (by kernel_rfl) rfl #[.slice A353_0 (rd_L1 l0 x8_1).length c353_0] rfl (by (try simp only [List.map_toArray, List.map_cons, List.map_nil]); first | done | rfl | (simp only [List.length_drop, List.length_take]; rfl)) ?_; (with_reducible refine (nat_short.calls k1 (fun k_ => k_ < w.heap.size) _ _ (rd_L1 l0 x8_1) t354 _ ?side1 A5.out).mono ?_); (case side1 => exact Kd.V_mk HC353_0.out (Kd.F_below (Kd.C_F (Kd.heap_int .u32) HR353_0.out) (by repeat (first | (with_reducible first | exact HB.out | apply below_alloc | apply pw_below_drewN | apply below_drew1) | exact HB.out)))); rintro e w7 ⟨v355, rfl, ho0, hb⟩; refine ⟨_, rfl, ?_⟩; have n0_ := Aside0.mk (Kd.V_below (by (with_reducible repeat (first | apply Kd.V_alloc | apply Kd.V_drewN | apply Kd.V_drew)); exact HO_3.out) hb); have n1_ := Aside0.mk (Kd.V_lower (Kd.V_mono (ok' := fun k_ => True) ho0 (fun k_ hk_ => trivial)) (below_size (by repeat (first | (with_reducible first | exact HB.out | apply below_alloc | apply pw_below_drewN | apply below_drew1) | exact HB.out)))); have n2_ := Aside0.mk (below_step (by repeat (first | (with_reducible first | exact HB.out | apply below_alloc | apply pw_below_drewN | apply below_drew1) | exact HB.out)) hb); clear HO_3; clear HB; have HO_3 := n0_; have HO356 := n1_; have HB := n2_; clear n0_ n1_ n2_; (try clear hb); (try clear hb2); (try clear hk); (try clear hi); (try clear ho0); obtain ⟨Ao8, co8, eo8⟩ := Kd.V_slice HO_3.out; subst eo8; obtain ⟨Ao9, co9, eo9⟩ := Kd.V_slice HO356.out; subst eo9) | ((with_reducible refine gate_callee (f := 56) rfl ?_); refine goesL_ (some 15) rfl rfl Try.func56 (by kernel_rfl) rfl #[.slice Ao8 x3_1.length co8, .slice Ao9 t354.length co9] rfl (by (try simp only [List.map_toArray, List.map_cons, List.map_nil]); first | done | rfl | (simp only [List.length_drop, List.length_take]; rfl)) ?_; (with_reducible refine (nat_plus.calls k1 (fun k_ => True) _ _ x3_1 (fun k_ => True) _ _ t354 t357 _ ?side1 ?side2 A6.out).mono ?_); (case side1 => exact HO_3.out); (case side2 => exact HO356.out); rintro e w10 ⟨v358, rfl, ho0, hb⟩; refine ⟨_, rfl, ?_⟩; have n0_ := Aside0.mk (Kd.V_below (by (with_reducible repeat (first | apply Kd.V_alloc | apply Kd.V_drewN | apply Kd.V_drew)); exact HO_3.out) hb); have n1_ := Aside0.mk (Kd.V_below (by (with_reducible repeat (first | apply Kd.V_alloc | apply Kd.V_drewN | apply Kd.V_drew)); exact HO356.out) hb); have n2_ := Aside0.mk (Kd.V_lower (Kd.V_mono (ok' := fun k_ => True) ho0 (fun k_ hk_ => trivial)) (below_size (by repeat (first | (with_reducible first | exact HB.out | apply below_alloc | apply pw_below_drewN | apply below_drew1) | exact HB.out)))); have n3_ := Aside0.mk (below_step (by repeat (first | (with_reducible first | exact HB.out | apply below_alloc | apply pw_below_drewN | apply below_drew1) | exact HB.out)) hb); clear HO_3; clear HO356; clear HB; have HO_3 := n0_; have HO356 := n1_; have HO359 := n2_; have HB := n3_; clear n0_ n1_ n2_ n3_; (try clear hb); (try clear hb2); (try clear hk); (try clear hi); (try clear ho0)))
            go_roundg k1
            case measure => have := HK1.out; omega
            case rel => exact ⟨(t357), (wrap64 (x8_1 + 1)), (by first | rfl | (simp; done) | (simp [*]; done)), H', ⟨by have := HK1.out; omega⟩, ⟨by (with_reducible repeat (first | apply Kd.V_alloc | apply Kd.V_drewN | apply Kd.V_drew)); exact HO359.out⟩, ⟨by repeat (first | (with_reducible first | exact HB.out | apply below_alloc | apply pw_below_drewN | apply below_drew1) | exact HB.out)⟩⟩
          · rw [if_neg c4] at H
            exact absurd H (by simp)
        · rw [if_neg c3] at H
          exact absurd H (by simp)
      · rw [if_neg c2] at H
        have c2b0 : decide (x8_1 < (l0.length : Int)) = false := decide_eq_false c2
        clear c2
        replace H := Option.bind_eq_some_iff.mp H
        obtain ⟨t360, A110, H⟩ := H
        replace H : (some t360) = some r := H
        have A11 := Aside0.mk A110
        clear A110
        obtain rfl := Option.some.inj H
        obtain ⟨Ao12, co12, eo12⟩ := Kd.V_slice HO_3.out
        subst eo12
        go_wp2_with (first | ((with_reducible refine gate_callee (f := 51) rfl ?_); refine goesL_ (some 18) rfl rfl Try.func51 (by kernel_rfl) rfl #[.slice Ao12 x3_1.length co12] rfl (by (try simp only [List.map_toArray, List.map_cons, List.map_nil]); first | done | rfl | (simp only [List.length_drop, List.length_take]; rfl)) ?_; (with_reducible refine (nat_Trim.calls k1 _ _ x3_1 t360 _ ?side1 ?side2 A11.out).mono ?_); (case side1 => repeat (first | exact (Kd.V_reads' HO_3.out).2.2 | (with_reducible refine Kd.C_alloc ?_ _) | (with_reducible refine Kd.C_drewN ?_ _) | (with_reducible refine Kd.C_drew ?_))); (case side2 => exact (Kd.V_reads' HO_3.out).2.1); rintro e w13 ⟨v361, rfl, ho0, hb⟩; refine ⟨_, rfl, ?_⟩; have n0_ := Aside0.mk (Kd.V_elder' (by (with_reducible repeat (first | apply Kd.V_alloc | apply Kd.V_drewN | apply Kd.V_drew)); exact HO_3.out) (Kd.R_base ho0) hb); have n1_ := Aside0.mk (Kd.R_lower ho0 (below_size (by repeat (first | (with_reducible first | exact HB.out | apply below_alloc | apply pw_below_drewN | apply below_drew1) | exact HB.out)))); have n2_ := Aside0.mk (below_step (by repeat (first | (with_reducible first | exact HB.out | apply below_alloc | apply pw_below_drewN | apply below_drew1) | exact HB.out)) hb); clear HO_3; clear HB; have HO_3 := n0_; have HO362 := n1_; have HB := n2_; clear n0_ n1_ n2_; (try clear hb); (try clear hb2); (try clear hk); (try clear hi); (try clear ho0)))
        go_ret
        exact ⟨_, by first | rfl | (simp [errW_none, errW_some] <;> rfl) | (simp [*, errW_none, errW_some] <;> rfl), by (with_reducible repeat (first | apply Kd.R_alloc | apply Kd.R_drewN | apply Kd.R_drew)); exact HO362.out, by repeat (first | (with_reducible first | exact HB.out | apply below_alloc | apply pw_below_drewN | apply below_drew1) | exact HB.out)⟩
/-! ### bounds_volume: function 27 -/
def bounds_volume.l0 : Nat → Int → Int → Int → List Int → Int → Option (List Int)
  | 0, _, _, _, _, _ => none
  | k + 1, x0, x1, x2, x7, x8 => if x8 ≤ x2 then ((bounds_choose.f k x1 x8).bind fun t363 => ((bounds_power.f k (wrap64 (x0 - 1)) x8).bind fun t366 => ((nat_Mul.f k (([t363, t366] : List (List Int)))).bind fun t372 => ((nat_Add.f k (([x7, t372] : List (List Int)))).bind fun t378 => (bounds_volume.l0 k x0 x1 x2 t378 (wrap64 (x8 + 1))))))) else (some x7)
def bounds_volume.f (k : Nat) (a0 : Int) (a1 : Int) (a2 : Int) : Option (List Int) := bounds_volume.l0 k a0 a1 a2 ([] : List Int) 0
set_option maxHeartbeats 8000000 in
set_option maxRecDepth 100000 in
theorem bounds_volume.calls (k : Nat) (a0 : Int) (a1 : Int) (a2 : Int) (r : List Int) (w : World) (h : bounds_volume.f k a0 a1 a2 = some r) :
    Calls Try.prog 27 #[.int .i64 a0, .int .i64 a1, .int .i64 a2] w fun e w' => ∃ v0_ : Value, e = .returned (v0_) ∧ Kd.R (Kd.int .u32) 41 w' w.heap.size (fun _ => True) v0_ r ∧ Below w.heap.size w w' := by
  have HB := Aside0.mk (Below.refl w.heap.size w)
  have H : (bounds_volume.l0 k a0 a1 a2 ([] : List Int) 0) = some r := h
  clear h
  have H' := Aside0.mk H
  clear H
  go_enter Try.func27, Try.ntmps27
  go_wp2
  go_loopg [7, 8] k (fun kq v7 v8 w' => ∃ (x7_1 : List Int) (x8_1 : Int), v8 = .int .i64 x8_1 ∧ Aside0 (bounds_volume.l0 kq a0 a1 a2 x7_1 x8_1 = some r) ∧ Aside0 (kq ≤ k) ∧ Aside0 (Kd.R (Kd.int .u32) 41 w' w.heap.size (fun _ => True) v7 x7_1) ∧ Aside0 (Below w.heap.size w w'))
  case atStart => exact ⟨(([] : List Int)), (0), (by first | rfl | (simp; done) | (simp [*]; done)), H', ⟨Nat.le_refl _⟩, ⟨by first | exact Kd.R_nil _ _ _ _ _ | exact Kd.N_nil _ _ _ _ _ | exact Kd.V_nil _ _ _ _ _ | exact Kd.Q_nil _ _ _ _ _ | exact Kd.S_nil _ _ _ _ _⟩, ⟨by repeat (first | (with_reducible first | exact HB.out | apply below_alloc | apply pw_below_drewN | apply below_drew1) | exact HB.out)⟩⟩
  case round =>
    clear H'
    try clear c2
    try clear p2
    obtain ⟨x7_1, x8_1, rfl, HA, HK1, HO_7, HB⟩ := hrel
    cases gk with
    | zero => exact absurd HA.out (by simp [bounds_volume.l0])
    | succ k1 =>
      have H := HA.out
      clear HA
      simp only [bounds_volume.l0] at H
      by_cases c4 : x8_1 ≤ a2
      · rw [if_pos c4] at H
        have c4b0 : decide (x8_1 ≤ a2) = true := decide_eq_true c4
        clear c4
        replace H := Option.bind_eq_some_iff.mp H
        obtain ⟨t363, A50, H⟩ := H
        replace H : ((bounds_power.f k1 (wrap64 (a0 - 1)) x8_1).bind fun t366 => ((nat_Mul.f k1 (([t363, t366] : List (List Int)))).bind fun t372 => ((nat_Add.f k1 (([x7_1, t372] : List (List Int)))).bind fun t378 => (bounds_volume.l0 k1 a0 a1 a2 t378 (wrap64 (x8_1 + 1)))))) = some r := H
        have A5 := Aside0.mk A50
        clear A50
        replace H := Option.bind_eq_some_iff.mp H
        obtain ⟨t366, A60, H⟩ := H
        replace H : ((nat_Mul.f k1 (([t363, t366] : List (List Int)))).bind fun t372 => ((nat_Add.f k1 (([x7_1, t372] : List (List Int)))).bind fun t378 => (bounds_volume.l0 k1 a0 a1 a2 t378 (wrap64 (x8_1 + 1))))) = some r := H
        have A6 := Aside0.mk A60
        clear A60
        obtain ⟨y369, hy369⟩ : ∃ y_ : List (List Int), y_ = (([t363, t366] : List (List Int))) := ⟨_, rfl⟩
        replace H : ((nat_Mul.f k1 y369).bind fun t372 => ((nat_Add.f k1 (([x7_1, t372] : List (List Int)))).bind fun t378 => (bounds_volume.l0 k1 a0 a1 a2 t378 (wrap64 (x8_1 + 1))))) = some r := by first | (rw [hy369]; with_reducible exact H) | (have H2_ := (Option.bind_some _ _).symm.trans H; rw [hy369]; with_reducible exact H2_) | (have H2_ := (Option.bind_some _ _).symm.trans H; with_reducible exact H2_) | with_reducible exact H | (rw [hy369]; exact H) | exact H
        have Ny369 := Aside0.mk hy369
        clear hy369
        replace H := Option.bind_eq_some_iff.mp H
        obtain ⟨t372, A70, H⟩ := H
        replace H : ((nat_Add.f k1 (([x7_1, t372] : List (List Int)))).bind fun t378 => (bounds_volume.l0 k1 a0 a1 a2 t378 (wrap64 (x8_1 + 1)))) = some r := H
        have A7 := Aside0.mk A70
        clear A70
        obtain ⟨y375, hy375⟩ : ∃ y_ : List (List Int), y_ = (([x7_1, t372] : List (List Int))) := ⟨_, rfl⟩
        replace H : ((nat_Add.f k1 y375).bind fun t378 => (bounds_volume.l0 k1 a0 a1 a2 t378 (wrap64 (x8_1 + 1)))) = some r := by first | (rw [hy375]; with_reducible exact H) | (have H2_ := (Option.bind_some _ _).symm.trans H; rw [hy375]; with_reducible exact H2_) | (have H2_ := (Option.bind_some _ _).symm.trans H; with_reducible exact H2_) | with_reducible exact H | (rw [hy375]; exact H) | exact H
        have Ny375 := Aside0.mk hy375
        clear hy375
        replace H := Option.bind_eq_some_iff.mp H
        obtain ⟨t378, A80, H⟩ := H
        replace H : (bounds_volume.l0 k1 a0 a1 a2 t378 (wrap64 (x8_1 + 1))) = some r := H
        have A8 := Aside0.mk A80
        clear A80
        have H' := Aside0.mk H
        clear H
        go_wp2_with (first | ((with_reducible refine gate_callee (f := 41) rfl ?_); refine goesL_ (some 17) rfl rfl Try.func41 (by kernel_rfl) rfl #[.int .i64 a1, .int .i64 x8_1] rfl (by (try simp only [List.map_toArray, List.map_cons, List.map_nil]); first | done | rfl | (simp only [List.length_drop, List.length_take]; rfl)) ?_; (with_reducible refine (bounds_choose.calls k1 a1 x8_1 t363 _ A5.out).mono ?_); rintro e w9 ⟨v364, rfl, ho0, hb⟩; refine ⟨_, rfl, ?_⟩; have n0_ := Aside0.mk (Kd.R_elder' (by (with_reducible repeat (first | apply Kd.R_alloc | apply Kd.R_drewN | apply Kd.R_drew)); exact HO_7.out) (Kd.R_base ho0) hb); have n1_ := Aside0.mk (Kd.R_lower (Kd.R_new' ho0 (Kd.R_lt (by (with_reducible repeat (first | apply Kd.R_alloc | apply Kd.R_drewN | apply Kd.R_drew)); exact HO_7.out))) (below_size (by repeat (first | (with_reducible first | exact HB.out | apply below_alloc | apply pw_below_drewN | apply below_drew1) | exact HB.out)))); have n2_ := Aside0.mk (below_step (by repeat (first | (with_reducible first | exact HB.out | apply below_alloc | apply pw_below_drewN | apply below_drew1) | exact HB.out)) hb); clear HO_7; clear HB; have HO_7 := n0_; have HO365 := n1_; have HB := n2_; clear n0_ n1_ n2_; (try clear hb); (try clear hb2); (try clear hk); (try clear hi); (try clear ho0)) | ((with_reducible refine gate_callee (f := 26) rfl ?_); refine goesL_ (some 21) rfl rfl Try.func26 (by kernel_rfl) rfl #[.int .i64 (wrap64 (a0 - 1)), .int .i64 x8_1] rfl (by (try simp only [List.map_toArray, List.map_cons, List.map_nil]); first | done | rfl | (simp only [List.length_drop, List.length_take]; rfl)) ?_; (with_reducible refine (bounds_power.calls k1 (wrap64 (a0 - 1)) x8_1 t366 _ A6.out).mono ?_); rintro e w10 ⟨v367, rfl, ho0, hb⟩; refine ⟨_, rfl, ?_⟩; have n0_ := Aside0.mk (Kd.R_elder' (by (with_reducible repeat (first | apply Kd.R_alloc | apply Kd.R_drewN | apply Kd.R_drew)); exact HO_7.out) (Kd.R_base ho0) hb); have n1_ := Aside0.mk (Kd.R_elder' (by (with_reducible repeat (first | apply Kd.R_alloc | apply Kd.R_drewN | apply Kd.R_drew)); exact HO365.out) (Kd.R_base ho0) hb); have n2_ := Aside0.mk (Kd.R_lower (Kd.R_new' (Kd.R_new' ho0 (Kd.R_lt (by (with_reducible repeat (first | apply Kd.R_alloc | apply Kd.R_drewN | apply Kd.R_drew)); exact HO_7.out))) (Kd.R_lt (by (with_reducible repeat (first | apply Kd.R_alloc | apply Kd.R_drewN | apply Kd.R_drew)); exact HO365.out))) (below_size (by repeat (first | (with_reducible first | exact HB.out | apply below_alloc | apply pw_below_drewN | apply below_drew1) | exact HB.out)))); have n3_ := Aside0.mk (below_step (by repeat (first | (with_reducible first | exact HB.out | apply below_alloc | apply pw_below_drewN | apply below_drew1) | exact HB.out)) hb); clear HO_7; clear HO365; clear HB; have HO_7 := n0_; have HO365 := n1_; have HO368 := n2_; have HB := n3_; clear n0_ n1_ n2_ n3_; (try clear hb); (try clear hb2); (try clear hk); (try clear hi); (try clear ho0); obtain ⟨Ao11, co11, eo11⟩ := Kd.R_slice HO365.out; subst eo11; obtain ⟨Ao12, co12, eo12⟩ := Kd.R_slice HO368.out; subst eo12) | ((with_reducible refine gate_dst (N := 22) rfl ?_); refine Kd.N_lit (Kd.slice 41 (Kd.int .u32)) _ 23 ?hg (N' := 22) ?hd (xs := ([t363, t366] : List (List Int))) (inner := [.slice Ao11 t363.length co11, .slice Ao12 t366.length co12]) (ok := (fun k_ => some k_ ≠ (u7 : Value).ownBlock)) (okp := (fun k_ => some k_ ≠ (u7 : Value).ownBlock)) ?hr ?hp (fun _ hk => hk) ((show ∀ k_, w10.heap.size ≤ k_ → (fun k_ => some k_ ≠ (u7 : Value).ownBlock) k_ from fun k_ hk => Kd.fresh' (Kd.R_lt (by (with_reducible repeat (first | apply Kd.R_alloc | apply Kd.R_drewN | apply Kd.R_drew)); exact HO_7.out)) k_ hk) _ (Nat.le_refl _)) (Below.refl _ _) (Nat.le_refl _) (by simp) ?_; (case hd => rfl); (case hg => rfl); (case hr => first | (go_simp; done) | (go_simp; rfl)); (case hp => exact (Reps.one (show Kd.FK (Kd.slice 41 (Kd.int .u32)) _ _ t363 [.slice Ao11 t363.length co11] from (Kd.FK_slice_mk (Kd.R_reads' (Kd.R_mono (ok' := (fun k_ => some k_ ≠ (u7 : Value).ownBlock)) (HO365.out) (fun k_ hk => hk.1.2))).2.1 (Kd.R_F (Kd.R_mono (ok' := (fun k_ => some k_ ≠ (u7 : Value).ownBlock)) (HO365.out) (fun k_ hk => hk.1.2))))) (Reps.one (show Kd.FK (Kd.slice 41 (Kd.int .u32)) _ _ t366 [.slice Ao12 t366.length co12] from (Kd.FK_slice_mk (Kd.R_reads' (Kd.R_mono (ok' := (fun k_ => some k_ ≠ (u7 : Value).ownBlock)) (HO368.out) (fun k_ hk => hk.1.2))).2.1 (Kd.R_F (Kd.R_mono (ok' := (fun k_ => some k_ ≠ (u7 : Value).ownBlock)) (HO368.out) (fun k_ hk => hk.1.2))))) (Reps.none _ _)))); intro v370 w13 ho14 hb hg_ hnew_; clear hg_ hnew_; (first | rw [← Ny369.out] at ho14 | (simp only [Int.reduceToNat] at ho14; rw [← Ny369.out] at ho14)); have n0_ := Aside0.mk (Kd.R_below (by (with_reducible repeat (first | apply Kd.R_alloc | apply Kd.R_drewN | apply Kd.R_drew)); exact HO_7.out) hb); have n1_ := Aside0.mk (Kd.N_lower ho14 (below_size (by repeat (first | (with_reducible first | exact HB.out | apply below_alloc | apply pw_below_drewN | apply below_drew1) | exact HB.out)))); have n2_ := Aside0.mk (below_step (by repeat (first | (with_reducible first | exact HB.out | apply below_alloc | apply pw_below_drewN | apply below_drew1) | exact HB.out)) hb); clear HO_7; clear HB; clear HO365; clear HO368; have HO_7 := n0_; have HO371 := n1_; have HB := n2_; clear n0_ n1_ n2_; clear hb ho14; obtain ⟨Ao15, co15, eo15⟩ := Kd.N_slice HO371.out; subst eo15) | ((with_reducible refine gate_callee (f := 31) rfl ?_); refine goesL_ (some 23) rfl rfl Try.func31 (by kernel_rfl) rfl #[.slice Ao15 y369.length co15] rfl (by (try simp only [List.map_toArray, List.map_cons, List.map_nil]); first | done | rfl | (simp only [List.length_drop, List.length_take]; rfl)) ?_; (with_reducible refine (nat_Mul.calls k1 _ _ y369 t372 _ ?side1 ?side2 A7.out).mono ?_); (case side1 => repeat (first | exact (Kd.N_reads' HO371.out).2.2 | (with_reducible refine Kd.C_alloc ?_ _) | (with_reducible refine Kd.C_drewN ?_ _) | (with_reducible refine Kd.C_drew ?_))); (case side2 => exact (Kd.N_reads' HO371.out).2.1); rintro e w16 ⟨v373, rfl, ho0, hb⟩; refine ⟨_, rfl, ?_⟩; have n0_ := Aside0.mk (Kd.R_elder' (by (with_reducible repeat (first | apply Kd.R_alloc | apply Kd.R_drewN | apply Kd.R_drew)); exact HO_7.out) (Kd.R_base ho0) hb); have n1_ := Aside0.mk (Kd.N_elder' (by (with_reducible repeat (first | apply Kd.N_alloc | apply Kd.N_drewN | apply Kd.N_drew)); exact HO371.out) (Kd.R_base ho0) hb); have n2_ := Aside0.mk (Kd.R_lower (Kd.R_new' ho0 (Kd.R_lt (by (with_reducible repeat (first | apply Kd.R_alloc | apply Kd.R_drewN | apply Kd.R_drew)); exact HO_7.out))) (below_size (by repeat (first | (with_reducible first | exact HB.out | apply below_alloc | apply pw_below_drewN | apply below_drew1) | exact HB.out)))); have n3_ := Aside0.mk (below_step (by repeat (first | (with_reducible first | exact HB.out | apply below_alloc | apply pw_below_drewN | apply below_drew1) | exact HB.out)) hb); clear HO_7; clear HO371; clear HB; have HO_7 := n0_; have HO371 := n1_; have HO374 := n2_; have HB := n3_; clear n0_ n1_ n2_ n3_; (try clear hb); (try clear hb2); (try clear hk); (try clear hi); (try clear ho0); obtain ⟨Ao17, co17, eo17⟩ := Kd.R_slice HO_7.out; subst eo17; obtain ⟨Ao18, co18, eo18⟩ := Kd.R_slice HO374.out; subst eo18) | ((with_reducible refine gate_dst (N := 24) rfl ?_); refine Kd.N_lit (Kd.slice 41 (Kd.int .u32)) _ 23 ?hg (N' := 24) ?hd (xs := ([x7_1, t372] : List (List Int))) (inner := [.slice Ao17 x7_1.length co17, .slice Ao18 t372.length co18]) (ok := (fun k_ => some k_ ≠ (.slice Ao15 y369.length co15 : Value).ownBlock)) (okp := (fun k_ => some k_ ≠ (.slice Ao15 y369.length co15 : Value).ownBlock)) ?hr ?hp (fun _ hk => hk) ((show ∀ k_, w16.heap.size ≤ k_ → (fun k_ => some k_ ≠ (.slice Ao15 y369.length co15 : Value).ownBlock) k_ from fun k_ hk => Kd.fresh' (Kd.N_lt (by (with_reducible repeat (first | apply Kd.N_alloc | apply Kd.N_drewN | apply Kd.N_drew)); exact HO371.out)) k_ hk) _ (Nat.le_refl _)) (Below.refl _ _) (Nat.le_refl _) (by simp) ?_; (case hd => rfl); (case hg => rfl); (case hr => first | (go_simp; done) | (go_simp; rfl)); (case hp => exact (Reps.one (show Kd.FK (Kd.slice 41 (Kd.int .u32)) _ _ x7_1 [.slice Ao17 x7_1.length co17] from (Kd.FK_slice_mk (Kd.R_reads' (Kd.R_mono (ok' := (fun k_ => some k_ ≠ (.slice Ao15 y369.length co15 : Value).ownBlock)) (Kd.R_apart' (HO_7.out) (Kd.N_typed HO371.out) (by decide)) (fun k_ hk => hk.2))).2.1 (Kd.R_F (Kd.R_mono (ok' := (fun k_ => some k_ ≠ (.slice Ao15 y369.length co15 : Value).ownBlock)) (Kd.R_apart' (HO_7.out) (Kd.N_typed HO371.out) (by decide)) (fun k_ hk => hk.2))))) (Reps.one (show Kd.FK (Kd.slice 41 (Kd.int .u32)) _ _ t372 [.slice Ao18 t372.length co18] from (Kd.FK_slice_mk (Kd.R_reads' (Kd.R_mono (ok' := (fun k_ => some k_ ≠ (.slice Ao15 y369.length co15 : Value).ownBlock)) (Kd.R_apart' (HO374.out) (Kd.N_typed HO371.out) (by decide)) (fun k_ hk => hk.2))).2.1 (Kd.R_F (Kd.R_mono (ok' := (fun k_ => some k_ ≠ (.slice Ao15 y369.length co15 : Value).ownBlock)) (Kd.R_apart' (HO374.out) (Kd.N_typed HO371.out) (by decide)) (fun k_ hk => hk.2))))) (Reps.none _ _)))); intro v376 w19 ho20 hb hg_ hnew_; clear hg_ hnew_; (first | rw [← Ny375.out] at ho20 | (simp only [Int.reduceToNat] at ho20; rw [← Ny375.out] at ho20)); have n0_ := Aside0.mk (Kd.N_elder' (by (with_reducible repeat (first | apply Kd.N_alloc | apply Kd.N_drewN | apply Kd.N_drew)); exact HO371.out) (Kd.N_base ho20) hb); have n1_ := Aside0.mk (Kd.N_lower ho20 (below_size (by repeat (first | (with_reducible first | exact HB.out | apply below_alloc | apply pw_below_drewN | apply below_drew1) | exact HB.out)))); have n2_ := Aside0.mk (below_step (by repeat (first | (with_reducible first | exact HB.out | apply below_alloc | apply pw_below_drewN | apply below_drew1) | exact HB.out)) hb); clear HO371; clear HB; clear HO374; clear HO_7; have HO371 := n0_; have HO377 := n1_; have HB := n2_; clear n0_ n1_ n2_; clear hb ho20; obtain ⟨Ao21, co21, eo21⟩ := Kd.N_slice HO377.out; subst eo21) | ((with_reducible refine gate_callee (f := 42) rfl ?_); refine goesL_ (some 25) rfl rfl Try.func42 (by kernel_rfl) rfl #[.slice Ao21 y375.length co21] rfl (by (try simp only [List.map_toArray, List.map_cons, List.map_nil]); first | done | rfl | (simp only [List.length_drop, List.length_take]; rfl)) ?_; (with_reducible refine (nat_Add.calls k1 _ _ y375 t378 _ ?side1 ?side2 A8.out).mono ?_); (case side1 => repeat (first | exact (Kd.N_reads' HO377.out).2.2 | (with_reducible refine Kd.C_alloc ?_ _) | (with_reducible refine Kd.C_drewN ?_ _) | (with_reducible refine Kd.C_drew ?_))); (case side2 => exact (Kd.N_reads' HO377.out).2.1); rintro e w22 ⟨v379, rfl, ho0, hb⟩; refine ⟨_, rfl, ?_⟩; have n0_ := Aside0.mk (Kd.N_elder' (by (with_reducible repeat (first | apply Kd.N_alloc | apply Kd.N_drewN | apply Kd.N_drew)); exact HO371.out) (Kd.R_base ho0) hb); have n1_ := Aside0.mk (Kd.N_elder' (by (with_reducible repeat (first | apply Kd.N_alloc | apply Kd.N_drewN | apply Kd.N_drew)); exact HO377.out) (Kd.R_base ho0) hb); have n2_ := Aside0.mk (Kd.R_lower ho0 (below_size (by repeat (first | (with_reducible first | exact HB.out | apply below_alloc | apply pw_below_drewN | apply below_drew1) | exact HB.out)))); have n3_ := Aside0.mk (below_step (by repeat (first | (with_reducible first | exact HB.out | apply below_alloc | apply pw_below_drewN | apply below_drew1) | exact HB.out)) hb); clear HO371; clear HO377; clear HB; have HO371 := n0_; have HO377 := n1_; have HO380 := n2_; have HB := n3_; clear n0_ n1_ n2_ n3_; (try clear hb); (try clear hb2); (try clear hk); (try clear hi); (try clear ho0)))
        go_roundg k1
        case measure => have := HK1.out; omega
        case rel => exact ⟨(t378), (wrap64 (x8_1 + 1)), (by first | rfl | (simp; done) | (simp [*]; done)), H', ⟨by have := HK1.out; omega⟩, ⟨by (with_reducible repeat (first | apply Kd.R_alloc | apply Kd.R_drewN | apply Kd.R_drew)); exact HO380.out⟩, ⟨by repeat (first | (with_reducible first | exact HB.out | apply below_alloc | apply pw_below_drewN | apply below_drew1) | exact HB.out)⟩⟩
      · rw [if_neg c4] at H
        have c4b0 : decide (x8_1 ≤ a2) = false := decide_eq_false c4
        clear c4
        obtain rfl := Option.some.inj H
        go_wp2
        go_ret
        exact ⟨_, by first | rfl | (simp [errW_none, errW_some] <;> rfl) | (simp [*, errW_none, errW_some] <;> rfl), by (with_reducible repeat (first | apply Kd.R_alloc | apply Kd.R_drewN | apply Kd.R_drew)); exact HO_7.out, by repeat (first | (with_reducible first | exact HB.out | apply below_alloc | apply pw_below_drewN | apply below_drew1) | exact HB.out)⟩
/-! ### nat_Sub: function 40 -/
def nat_Sub.l0 : Nat → List Int → List Int → Int → Int → Int → Option (List Int × Int)
  | 0, _, _, _, _, _ => none
  | k + 1, x1, x6, x7, x17, x18 => if x18 < x17 then (if 0 ≤ x18 then (if x18 < (x6.length : Int) then (if x18 < (x1.length : Int) then (nat_Sub.l0 k x1 (x6.set (x18 : Int).toNat ((IntKind.u64.wrap ((IntKind.u64.wrap ((IntKind.u64.wrap (rd x6 x18)) - x7)) - (IntKind.u64.wrap (rd x1 x18)))) % 4294967296)) ((IntKind.u64.wrap ((IntKind.u64.wrap ((IntKind.u64.wrap (rd x6 x18)) - x7)) - (IntKind.u64.wrap (rd x1 x18)))) / 9223372036854775808) x17 (wrap64 (x18 + 1))) else (nat_Sub.l0 k x1 (x6.set (x18 : Int).toNat ((IntKind.u64.wrap ((IntKind.u64.wrap (rd x6 x18)) - x7)) % 4294967296)) ((IntKind.u64.wrap ((IntKind.u64.wrap (rd x6 x18)) - x7)) / 9223372036854775808) x17 (wrap64 (x18 + 1)))) else (none)) else (none)) else ((nat_short.f k x6).bind fun t389 => (some (t389, 0)))
def nat_Sub.f (k : Nat) (l0 : List Int) (l1 : List Int) : Option (List Int × Int) := (nat_Cmp.f k l0 l1).bind fun t381 => (if t381 < 0 then (some (([] : List Int), 6)) else ((nat_Trim.f k l0).bind fun t382 => (nat_Sub.l0 k l1 t382 0 (t382.length : Int) 0)))
set_option maxHeartbeats 8000000 in
set_option maxRecDepth 100000 in
theorem nat_Sub.calls (k : Nat) (A0 : Option Addr) (c0 : Nat) (l0 : List Int) (A1 : Option Addr) (c1 : Nat) (l1 : List Int) (r1 : List Int) (r2 : Int) (w : World) (hr0 : Kd.C (Kd.int .u32) w A0 l0.length l0) (hc0 : l0.length ≤ c0) (hr1 : Kd.C (Kd.int .u32) w A1 l1.length l1) (hc1 : l1.length ≤ c1) (h : nat_Sub.f k l0 l1 = some (r1, r2)) :
    Calls Try.prog 40 #[.slice A0 l0.length c0, .slice A1 l1.length c1] w fun e w' => ∃ v0_ : Value, e = .returned (.tuple #[v0_, .int .i64 r2]) ∧ Kd.V (Kd.int .u32) 41 w' w.heap.size (fun k_ => (w.heap.size ≤ k_)) v0_ r1 ∧ Below w.heap.size w w' := by
  have HR0 := Aside0.mk hr0
  have HC0 := Aside0.mk hc0
  clear hr0 hc0
  have HR1 := Aside0.mk hr1
  have HC1 := Aside0.mk hc1
  clear hr1 hc1
  have HB := Aside0.mk (Below.refl w.heap.size w)
  have H : ((nat_Cmp.f k l0 l1).bind fun t381 => (if t381 < 0 then (some (([] : List Int), 6)) else ((nat_Trim.f k l0).bind fun t382 => (nat_Sub.l0 k l1 t382 0 (t382.length : Int) 0)))) = some (r1, r2) := h
  clear h
  replace H := Option.bind_eq_some_iff.mp H
  obtain ⟨t381, A30, H⟩ := H
  replace H : (if t381 < 0 then (some (([] : List Int), 6)) else ((nat_Trim.f k l0).bind fun t382 => (nat_Sub.l0 k l1 t382 0 (t382.length : Int) 0))) = some (r1, r2) := H
  have A3 := Aside0.mk A30
  clear A30
  by_cases c4 : t381 < 0
  · rw [if_pos c4] at H
    have c4b0 : decide (t381 < 0) = true := decide_eq_true c4
    clear c4
    simp only [Option.some.injEq, Prod.mk.injEq] at H
    obtain ⟨rfl, rfl⟩ := H
    go_enter Try.func40, Try.ntmps40
    go_wp2_with (first | ((with_reducible refine gate_callee (f := 33) rfl ?_); refine goesL_ (some 12) rfl rfl Try.func33 (by kernel_rfl) rfl #[.slice A0 l0.length c0, .slice A1 l1.length c1] rfl (by (try simp only [List.map_toArray, List.map_cons, List.map_nil]); first | done | rfl | (simp only [List.length_drop, List.length_take]; rfl)) ?_; (with_reducible refine (nat_Cmp.calls k _ _ l0 _ _ l1 t381 _ ?side1 ?side2 ?side3 ?side4 A3.out).mono ?_); (case side1 => repeat (first | exact HR0.out | (with_reducible refine Kd.C_alloc ?_ _) | (with_reducible refine Kd.C_drewN ?_ _) | (with_reducible refine Kd.C_drew ?_))); (case side2 => exact HC0.out); (case side3 => repeat (first | exact HR1.out | (with_reducible refine Kd.C_alloc ?_ _) | (with_reducible refine Kd.C_drewN ?_ _) | (with_reducible refine Kd.C_drew ?_))); (case side4 => exact HC1.out); rintro e w5 ⟨rfl, hb⟩; refine ⟨_, rfl, ?_⟩; have n0_ := Aside0.mk (below_step (by repeat (first | (with_reducible first | exact HB.out | apply below_alloc | apply pw_below_drewN | apply below_drew1) | exact HB.out)) hb); clear HB; have HB := n0_; clear n0_; (try clear hb); (try clear hb2); (try clear hk); (try clear hi)))
    go_ret2
    exact ⟨_, by first | rfl | (simp [errW_none, errW_some] <;> rfl) | (simp [*, errW_none, errW_some] <;> rfl), Kd.R_V (base := 0) (by first | exact Kd.R_nil _ _ _ _ _ | exact Kd.N_nil _ _ _ _ _ | exact Kd.V_nil _ _ _ _ _ | exact Kd.Q_nil _ _ _ _ _ | exact Kd.S_nil _ _ _ _ _), by repeat (first | (with_reducible first | exact HB.out | apply below_alloc | apply pw_below_drewN | apply below_drew1) | exact HB.out)⟩
  · rw [if_neg c4] at H
    have c4b0 : decide (t381 < 0) = false := decide_eq_false c4
    clear c4
    replace H := Option.bind_eq_some_iff.mp H
    obtain ⟨t382, A60, H⟩ := H
    replace H : (nat_Sub.l0 k l1 t382 0 (t382.length : Int) 0) = some (r1, r2) := H
    have A6 := Aside0.mk A60
    clear A60
    have H' := Aside0.mk H
    clear H
    go_enter Try.func40, Try.ntmps40
    go_wp2_with (first | ((with_reducible refine gate_callee (f := 33) rfl ?_); refine goesL_ (some 12) rfl rfl Try.func33 (by kernel_rfl) rfl #[.slice A0 l0.length c0, .slice A1 l1.length c1] rfl (by (try simp only [List.map_toArray, List.map_cons, List.map_nil]); first | done | rfl | (simp only [List.length_drop, List.length_take]; rfl)) ?_; (with_reducible refine (nat_Cmp.calls k _ _ l0 _ _ l1 t381 _ ?side1 ?side2 ?side3 ?side4 A3.out).mono ?_); (case side1 => repeat (first | exact HR0.out | (with_reducible refine Kd.C_alloc ?_ _) | (with_reducible refine Kd.C_drewN ?_ _) | (with_reducible refine Kd.C_drew ?_))); (case side2 => exact HC0.out); (case side3 => repeat (first | exact HR1.out | (with_reducible refine Kd.C_alloc ?_ _) | (with_reducible refine Kd.C_drewN ?_ _) | (with_reducible refine Kd.C_drew ?_))); (case side4 => exact HC1.out); rintro e w7 ⟨rfl, hb⟩; refine ⟨_, rfl, ?_⟩; have n0_ := Aside0.mk (below_step (by repeat (first | (with_reducible first | exact HB.out | apply below_alloc | apply pw_below_drewN | apply below_drew1) | exact HB.out)) hb); clear HB; have HB := n0_; clear n0_; (try clear hb); (try clear hb2); (try clear hk); (try clear hi)) | ((with_reducible refine gate_callee (f := 51) rfl ?_); refine goesL_ (some 15) rfl rfl Try.func51 (by kernel_rfl) rfl #[.slice A0 l0.length c0] rfl (by (try simp only [List.map_toArray, List.map_cons, List.map_nil]); first | done | rfl | (simp only [List.length_drop, List.length_take]; rfl)) ?_; (with_reducible refine (nat_Trim.calls k _ _ l0 t382 _ ?side1 ?side2 A6.out).mono ?_); (case side1 => repeat (first | exact (Kd.C_below HR0.out HB.out) | (with_reducible refine Kd.C_alloc ?_ _) | (with_reducible refine Kd.C_drewN ?_ _) | (with_reducible refine Kd.C_drew ?_))); (case side2 => exact HC0.out); rintro e w8 ⟨v383, rfl, ho0, hb⟩; refine ⟨_, rfl, ?_⟩; have n0_ := Aside0.mk (Kd.R_lower (Kd.R_newM (M := fun k_ => (w.heap.size ≤ k_)) ho0 (below_size (by repeat (first | (with_reducible first | exact HB.out | apply below_alloc | apply pw_below_drewN | apply below_drew1) | exact HB.out))) (fun k_ h_ => h_)) (below_size (by repeat (first | (with_reducible first | exact HB.out | apply below_alloc | apply pw_below_drewN | apply below_drew1) | exact HB.out)))); have n1_ := Aside0.mk (below_step (by repeat (first | (with_reducible first | exact HB.out | apply below_alloc | apply pw_below_drewN | apply below_drew1) | exact HB.out)) hb); clear HB; have HO384 := n0_; have HB := n1_; clear n0_ n1_; (try clear hb); (try clear hb2); (try clear hk); (try clear hi); (try clear ho0); obtain ⟨Ao9, co9, eo9⟩ := Kd.R_slice HO384.out; subst eo9))
    go_loopg [7, 18] k (fun kq v7 v18 w' => ∃ (x6_1 : List Int) (x7_1 : Int) (x18_1 : Int), v7 = .int .u64 x7_1 ∧ v18 = .int .i64 x18_1 ∧ Aside0 (nat_Sub.l0 kq l1 x6_1 x7_1 (t382.length : Int) x18_1 = some (r1, r2)) ∧ Aside0 (kq ≤ k) ∧ Aside0 (Kd.R (Kd.int .u32) 41 w' w.heap.size (fun k_ => (w.heap.size ≤ k_)) (.slice Ao9 t382.length co9) x6_1) ∧ Aside0 (Below w.heap.size w w'))
    case atStart => exact ⟨(t382), (0), (0), (by first | rfl | (simp; done) | (simp [*]; done)), (by first | rfl | (simp; done) | (simp [*]; done)), H', ⟨Nat.le_refl _⟩, ⟨by (with_reducible repeat (first | apply Kd.R_alloc | apply Kd.R_drewN | apply Kd.R_drew)); exact Kd.R_mono HO384.out (fun _ hk => hk.1)⟩, ⟨by repeat (first | (with_reducible first | exact HB.out | apply below_alloc | apply pw_below_drewN | apply below_drew1) | exact HB.out)⟩⟩
    case round =>
      clear H'
      try clear c1
      try clear p2
      try clear c3
      try clear c4
      try clear c4b0
      try clear c5
      obtain ⟨x6_1, x7_1, x18_1, rfl, rfl, HA, HK1, HO_6, HB⟩ := hrel
      have hl6_1 := (Kd.R_reads' HO_6.out).1
      rw [hl6_1] at HO_6
      (try simp only [hl6_1])
      cases gk with
      | zero => exact absurd HA.out (by simp [nat_Sub.l0])
      | succ k1 =>
        have H := HA.out
        clear HA
        simp only [nat_Sub.l0] at H
        by_cases c10 : x18_1 < (t382.length : Int)
        · rw [if_pos c10] at H
          have c10b0 : decide (x18_1 < (t382.length : Int)) = true := decide_eq_true c10
          clear c10
          by_cases c11 : 0 ≤ x18_1
          · rw [if_pos c11] at H
            have c11b0 : decide (0 ≤ x18_1) = true := decide_eq_true c11
            clear c11
            by_cases c12 : x18_1 < (x6_1.length : Int)
            · rw [if_pos c12] at H
              have c12b0 : decide (x18_1 < (x6_1.length : Int)) = true := decide_eq_true c12
              clear c12
              by_cases c13 : x18_1 < (l1.length : Int)
              · rw [if_pos c13] at H
                have c13b0 : decide (x18_1 < (l1.length : Int)) = true := decide_eq_true c13
                clear c13
                obtain ⟨y387, hy387⟩ : ∃ y_ : List Int, y_ = (x6_1.set (x18_1 : Int).toNat ((IntKind.u64.wrap ((IntKind.u64.wrap ((IntKind.u64.wrap (rd x6_1 x18_1)) - x7_1)) - (IntKind.u64.wrap (rd l1 x18_1)))) % 4294967296)) := ⟨_, rfl⟩
                replace H : (nat_Sub.l0 k1 l1 y387 ((IntKind.u64.wrap ((IntKind.u64.wrap ((IntKind.u64.wrap (rd x6_1 x18_1)) - x7_1)) - (IntKind.u64.wrap (rd l1 x18_1)))) / 9223372036854775808) (t382.length : Int) (wrap64 (x18_1 + 1))) = some (r1, r2) := by first | (rw [hy387]; with_reducible exact H) | (have H2_ := (Option.bind_some _ _).symm.trans H; rw [hy387]; with_reducible exact H2_) | (have H2_ := (Option.bind_some _ _).symm.trans H; with_reducible exact H2_) | with_reducible exact H | (rw [hy387]; exact H) | exact H
                have Ny387 := Aside0.mk hy387
                clear hy387
                have H' := Aside0.mk H
                clear H
                have p385 : 0 ≤ (x18_1 : Int) := of_decide_eq_true (by first | (with_reducible assumption) | assumption)
                have q385 : x18_1 < (x6_1.length : Int) := of_decide_eq_true (by first | (with_reducible assumption) | assumption)
                obtain ⟨ad385, e385, hx385_0⟩ := Kd.at_int (Kd.R_reads' HO_6.out).2.2 x18_1 p385 q385
                cases e385
                replace p385 := eq_true p385
                replace q385 := eq_true q385
                have p386 : 0 ≤ (x18_1 : Int) := of_decide_eq_true (by first | (with_reducible assumption) | assumption)
                have q386 : x18_1 < (l1.length : Int) := of_decide_eq_true (by first | (with_reducible assumption) | assumption)
                obtain ⟨ad386, e386, hx386_0⟩ := Kd.at_int HR1.out x18_1 p386 q386
                cases e386
                replace hx386_0 := (HB.out.cell (World.block_lt_of_cell? w _ hx386_0)).trans hx386_0
                replace p386 := eq_true p386
                replace q386 := eq_true q386
                have p14 : 0 ≤ (x18_1 : Int) := of_decide_eq_true (by first | (with_reducible assumption) | assumption)
                have q14 : (x18_1 : Int) < ((x6_1.length : Int) : Int) := of_decide_eq_true (by first | (with_reducible assumption) | assumption)
                obtain ⟨go14, co14, eo14, gb14, gl14, cl14, HG14⟩ := Kd.R_form HO_6.out (by omega)
                (first | cases eo14 | (injection eo14 with ea_ en_ ec_; (first | subst ea_ | (injection ea_ with ea_; subst ea_)); subst ec_; clear en_))
                have GB14 := Aside0.mk gb14
                have GG14 := Aside0.mk HG14
                clear gb14 gl14 HG14
                (first | simp only [add_plain] at hx385_0 | skip)
                obtain ⟨hx14_0, hf14_0⟩ := Kd.R_celln 0 HO_6.out (x18_1 : Int) p14 q14
                replace p14 := eq_true p14
                replace q14 := eq_true q14
                have HP15 := Kd.R_putg HO_6.out (x18_1 : Int) ((IntKind.u64.wrap ((IntKind.u64.wrap ((IntKind.u64.wrap (rd x6_1 x18_1)) - x7_1)) - (IntKind.u64.wrap (rd l1 x18_1)))) % 4294967296)
                go_wp2_with (first | ((with_reducible refine gate_store (t := 41) (p := 43) rfl ?_); refine store_event (t := 41) (p := 43) (v := ?vo_w16) (w1 := (wr.setCell ⟨go14, (x18_1 : Int).toNat, none⟩ (.int .u32 ((IntKind.u64.wrap ((IntKind.u64.wrap ((IntKind.u64.wrap (rd x6_1 x18_1)) - x7_1)) - (IntKind.u64.wrap (rd l1 x18_1)))) % 4294967296)))) ?hg ?ho ?hn ?hr ?_; (case ho => rfl); (case hg => rfl); (case hn => rfl); (case hr => first | (go_simp; done) | (go_simp; rfl)); intro w16 hw; have hg : wr.grownBy w16 (some go14) := (by rw [hw]; exact HP15.2); have hp_ : Kd.R (Kd.int .u32) 41 w16 w.heap.size (fun k_ => (w.heap.size ≤ k_)) (.slice (some ⟨go14, 0, none⟩) x6_1.length co9) y387 := (by rw [hw, Ny387.out]; exact HP15.1); clear HP15; have n0_ := Aside0.mk (hp_); have n1_ := Aside0.mk ((by rw [hw]; exact below_set (HB.out) GB14.out : Below w.heap.size w w16)); clear HO_6; clear HB; have HO_6 := n0_; have HB := n1_; clear n0_ n1_; clear hg hw hp_))
                (try simp only [← hl6_1])
                go_roundg k1
                case measure => have := HK1.out; omega
                case rel => exact ⟨(y387), ((IntKind.u64.wrap ((IntKind.u64.wrap ((IntKind.u64.wrap (rd x6_1 x18_1)) - x7_1)) - (IntKind.u64.wrap (rd l1 x18_1)))) / 9223372036854775808), (wrap64 (x18_1 + 1)), (by first | rfl | (simp; done) | (simp [*]; done)), (by first | rfl | (simp; done) | (simp [*]; done)), H', ⟨by have := HK1.out; omega⟩, ⟨by (try simp only [hl6_1]); (with_reducible repeat (first | apply Kd.R_alloc | apply Kd.R_drewN | apply Kd.R_drew)); exact HO_6.out⟩, ⟨by repeat (first | (with_reducible first | exact HB.out | apply below_alloc | apply pw_below_drewN | apply below_drew1) | exact HB.out)⟩⟩
              · rw [if_neg c13] at H
                have c13b0 : decide (x18_1 < (l1.length : Int)) = false := decide_eq_false c13
                clear c13
                obtain ⟨y388, hy388⟩ : ∃ y_ : List Int, y_ = (x6_1.set (x18_1 : Int).toNat ((IntKind.u64.wrap ((IntKind.u64.wrap (rd x6_1 x18_1)) - x7_1)) % 4294967296)) := ⟨_, rfl⟩
                replace H : (nat_Sub.l0 k1 l1 y388 ((IntKind.u64.wrap ((IntKind.u64.wrap (rd x6_1 x18_1)) - x7_1)) / 9223372036854775808) (t382.length : Int) (wrap64 (x18_1 + 1))) = some (r1, r2) := by first | (rw [hy388]; with_reducible exact H) | (have H2_ := (Option.bind_some _ _).symm.trans H; rw [hy388]; with_reducible exact H2_) | (have H2_ := (Option.bind_some _ _).symm.trans H; with_reducible exact H2_) | with_reducible exact H | (rw [hy388]; exact H) | exact H
                have Ny388 := Aside0.mk hy388
                clear hy388
                have H' := Aside0.mk H
                clear H
                have p385 : 0 ≤ (x18_1 : Int) := of_decide_eq_true (by first | (with_reducible assumption) | assumption)
                have q385 : x18_1 < (x6_1.length : Int) := of_decide_eq_true (by first | (with_reducible assumption) | assumption)
                obtain ⟨ad385, e385, hx385_0⟩ := Kd.at_int (Kd.R_reads' HO_6.out).2.2 x18_1 p385 q385
                cases e385
                replace p385 := eq_true p385
                replace q385 := eq_true q385
                have p17 : 0 ≤ (x18_1 : Int) := of_decide_eq_true (by first | (with_reducible assumption) | assumption)
                have q17 : (x18_1 : Int) < ((x6_1.length : Int) : Int) := of_decide_eq_true (by first | (with_reducible assumption) | assumption)
                obtain ⟨go17, co17, eo17, gb17, gl17, cl17, HG17⟩ := Kd.R_form HO_6.out (by omega)
                (first | cases eo17 | (injection eo17 with ea_ en_ ec_; (first | subst ea_ | (injection ea_ with ea_; subst ea_)); subst ec_; clear en_))
                have GB17 := Aside0.mk gb17
                have GG17 := Aside0.mk HG17
                clear gb17 gl17 HG17
                (first | simp only [add_plain] at hx385_0 | skip)
                obtain ⟨hx17_0, hf17_0⟩ := Kd.R_celln 0 HO_6.out (x18_1 : Int) p17 q17
                replace p17 := eq_true p17
                replace q17 := eq_true q17
                have HP18 := Kd.R_putg HO_6.out (x18_1 : Int) ((IntKind.u64.wrap ((IntKind.u64.wrap (rd x6_1 x18_1)) - x7_1)) % 4294967296)
                go_wp2_with (first | ((with_reducible refine gate_store (t := 41) (p := 43) rfl ?_); refine store_event (t := 41) (p := 43) (v := ?vo_w19) (w1 := (wr.setCell ⟨go17, (x18_1 : Int).toNat, none⟩ (.int .u32 ((IntKind.u64.wrap ((IntKind.u64.wrap (rd x6_1 x18_1)) - x7_1)) % 4294967296)))) ?hg ?ho ?hn ?hr ?_; (case ho => rfl); (case hg => rfl); (case hn => rfl); (case hr => first | (go_simp; done) | (go_simp; rfl)); intro w19 hw; have hg : wr.grownBy w19 (some go17) := (by rw [hw]; exact HP18.2); have hp_ : Kd.R (Kd.int .u32) 41 w19 w.heap.size (fun k_ => (w.heap.size ≤ k_)) (.slice (some ⟨go17, 0, none⟩) x6_1.length co9) y388 := (by rw [hw, Ny388.out]; exact HP18.1); clear HP18; have n0_ := Aside0.mk (hp_); have n1_ := Aside0.mk ((by rw [hw]; exact below_set (HB.out) GB17.out : Below w.heap.size w w19)); clear HO_6; clear HB; have HO_6 := n0_; have HB := n1_; clear n0_ n1_; clear hg hw hp_))
                (try simp only [← hl6_1])
                go_roundg k1
                case measure => have := HK1.out; omega
                case rel => exact ⟨(y388), ((IntKind.u64.wrap ((IntKind.u64.wrap (rd x6_1 x18_1)) - x7_1)) / 9223372036854775808), (wrap64 (x18_1 + 1)), (by first | rfl | (simp; done) | (simp [*]; done)), (by first | rfl | (simp; done) | (simp [*]; done)), H', ⟨by have := HK1.out; omega⟩, ⟨by (try simp only [hl6_1]); (with_reducible repeat (first | apply Kd.R_alloc | apply Kd.R_drewN | apply Kd.R_drew)); exact HO_6.out⟩, ⟨by repeat (first | (with_reducible first | exact HB.out | apply below_alloc | apply pw_below_drewN | apply below_drew1) | exact HB.out)⟩⟩
            · rw [if_neg c12] at H
              exact absurd H (by simp)
          · rw [if_neg c11] at H
            exact absurd H (by simp)
        · rw [if_neg c10] at H
          have c10b0 : decide (x18_1 < (t382.length : Int)) = false := decide_eq_false c10
          (try rw [hl6_1] at c10b0)
          clear c10
          replace H := Option.bind_eq_some_iff.mp H
          obtain ⟨t389, A200, H⟩ := H
          replace H : (some (t389, 0)) = some (r1, r2) := H
          have A20 := Aside0.mk A200
          clear A200
          simp only [Option.some.injEq, Prod.mk.injEq] at H
          obtain ⟨rfl, rfl⟩ := H
          go_wp2_with (first | ((with_reducible refine gate_callee (f := 50) rfl ?_); refine goesL_ (some 48) rfl rfl Try.func50 (by kernel_rfl) rfl #[.slice Ao9 x6_1.length co9] rfl (by (try simp only [List.map_toArray, List.map_cons, List.map_nil]); first | done | rfl | (simp only [List.length_drop, List.length_take]; rfl)) ?_; (with_reducible refine (nat_short.calls k1 (fun k_ => some k_ = (.slice Ao9 x6_1.length co9 : Value).ownBlock) _ _ x6_1 t389 _ ?side1 A20.out).mono ?_); (case side1 => exact Kd.R_V (Kd.R_tight rfl (HO_6.out))); rintro e w21 ⟨v390, rfl, ho0, hb⟩; refine ⟨_, rfl, ?_⟩; have n0_ := Aside0.mk (Kd.R_below (by (with_reducible repeat (first | apply Kd.R_alloc | apply Kd.R_drewN | apply Kd.R_drew)); exact HO_6.out) hb); have n1_ := Aside0.mk (Kd.V_lower (Kd.V_mono (ok' := fun k_ => (w.heap.size ≤ k_)) ho0 (fun k_ hk_ => Or.elim hk_ (fun hs_ => ((HO_6.out).1 k_ hs_.symm)) (fun hn_ => (Nat.le_trans (below_size (by repeat (first | (with_reducible first | exact HB.out | apply below_alloc | apply pw_below_drewN | apply below_drew1) | exact HB.out))) hn_)))) (below_size (by repeat (first | (with_reducible first | exact HB.out | apply below_alloc | apply pw_below_drewN | apply below_drew1) | exact HB.out)))); have n2_ := Aside0.mk (below_step (by repeat (first | (with_reducible first | exact HB.out | apply below_alloc | apply pw_below_drewN | apply below_drew1) | exact HB.out)) hb); clear HO_6; clear HB; have HO_6 := n0_; have HO391 := n1_; have HB := n2_; clear n0_ n1_ n2_; (try clear hb); (try clear hb2); (try clear hk); (try clear hi); (try clear ho0)))
          go_ret2
          exact ⟨_, by first | rfl | (simp [errW_none, errW_some] <;> rfl) | (simp [*, errW_none, errW_some] <;> rfl), by (with_reducible repeat (first | apply Kd.V_alloc | apply Kd.V_drewN | apply Kd.V_drew)); exact HO391.out, by repeat (first | (with_reducible first | exact HB.out | apply below_alloc | apply pw_below_drewN | apply below_drew1) | exact HB.out)⟩
end Go.Proofs.Yteemcpcljdjpcaa.PBoundsJohnson
