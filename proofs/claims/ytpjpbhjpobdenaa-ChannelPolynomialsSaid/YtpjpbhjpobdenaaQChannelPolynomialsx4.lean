/- A part of the print of this row, cut down to what the row uses. -/
import Derived.Test.YtpjpbhjpobdenaaQChannelPolynomialsx0
import Derived.Test.YtpjpbhjpobdenaaQChannelPolynomialsWSq
-- printed by a scratch copy of the print, turned (wip/tools/turn_print.py)
namespace Go.Proofs.Ytpjpbhjpobdenaa.PNat
open Go.RowKit Go.Proofs.YtpjpbhjpobdenaaW.PrintWords Go.Proofs.YtpjpbhjpobdenaaW.PrintLast Go.Proofs.YtpjpbhjpobdenaaW.PrintMore
attribute [local go_sem] max2_int min2_int max_two min_two max_three min_three max_four min_four   -- for this text's walks alone
set_option linter.unusedVariables false
set_option linter.unusedSimpArgs false
/-! ### nat_step: function 110 -/
mutual
def nat_step.j1 : Nat → List Int → List Int → Int → Int → Option (Int × List Int)
 | 0, _, _, _, _ => none
 | k + 1, x0, x1, x5, x7 => nat_step.l1 k x0 x1 x5 x7 0 0 (x1.length : Int) 0
def nat_step.l1 : Nat → List Int → List Int → Int → Int → Int → Int → Int → Int → Option (Int × List Int)
 | 0, _, _, _, _, _, _, _, _ => none
 | k + 1, x0, x1, x5, x7, x9, x10, x85, x86 => if x86 < x85 then (if 0 ≤ x86 then (if x86 < (x1.length : Int) then (if x86 < (x0.length : Int) then (nat_step.l1 k (x0.set (x86 : Int).toNat ((IntKind.u64.wrap ((IntKind.u64.wrap ((IntKind.u64.wrap (rd x0 x86)) - ((IntKind.u64.wrap ((IntKind.u64.wrap (x7 * (IntKind.u64.wrap (rd x1 x86)))) + x10)) % 4294967296))) - x9)) % 4294967296)) x1 x5 x7 ((IntKind.u64.wrap ((IntKind.u64.wrap ((IntKind.u64.wrap (rd x0 x86)) - ((IntKind.u64.wrap ((IntKind.u64.wrap (x7 * (IntKind.u64.wrap (rd x1 x86)))) + x10)) % 4294967296))) - x9)) / 9223372036854775808) ((IntKind.u64.wrap ((IntKind.u64.wrap (x7 * (IntKind.u64.wrap (rd x1 x86)))) + x10)) / 4294967296) x85 (wrap64 (x86 + 1))) else (none)) else (none)) else (none)) else (if 0 ≤ x5 then (if x5 < (x0.length : Int) then ((some (x0.set (x5 : Int).toNat ((IntKind.u64.wrap ((IntKind.u64.wrap ((IntKind.u64.wrap (rd x0 x5)) - x10)) - x9)) % 4294967296) : List Int)).bind fun y225 => (if ((IntKind.u64.wrap ((IntKind.u64.wrap ((IntKind.u64.wrap (rd x0 x5)) - x10)) - x9)) / 9223372036854775808) = 0 then (some ((x7) % 4294967296, y225)) else (nat_step.l2 k y225 x1 x5 x7 0 (x1.length : Int) 0))) else (none)) else (none))
def nat_step.l2 : Nat → List Int → List Int → Int → Int → Int → Int → Int → Option (Int × List Int)
 | 0, _, _, _, _, _, _, _ => none
 | k + 1, x0, x1, x5, x7, x10, x139, x140 => if x140 < x139 then (if 0 ≤ x140 then (if x140 < (x0.length : Int) then (if x140 < (x1.length : Int) then (nat_step.l2 k (x0.set (x140 : Int).toNat ((IntKind.u64.wrap ((IntKind.u64.wrap ((IntKind.u64.wrap (rd x0 x140)) + (IntKind.u64.wrap (rd x1 x140)))) + x10)) % 4294967296)) x1 x5 x7 ((IntKind.u64.wrap ((IntKind.u64.wrap ((IntKind.u64.wrap (rd x0 x140)) + (IntKind.u64.wrap (rd x1 x140)))) + x10)) / 4294967296) x139 (wrap64 (x140 + 1))) else (none)) else (none)) else (none)) else (if 0 ≤ x5 then (if x5 < (x0.length : Int) then (some ((IntKind.u64.wrap (x7 - 1)) % 4294967296, (x0.set (x5 : Int).toNat (((rd x0 x5) + ((x10) % 4294967296)) % 4294967296)))) else (none)) else (none))
def nat_step.l0 : Nat → List Int → List Int → Int → Int → Int → Option (Int × List Int)
 | 0, _, _, _, _, _ => none
 | k + 1, x0, x1, x5, x7, x8 => if x8 < 4294967296 then (if x7 ≥ 4294967296 then (if 0 ≤ (wrap64 (x5 - 1)) then (if (wrap64 (x5 - 1)) < (x1.length : Int) then (nat_step.l0 k x0 x1 x5 (IntKind.u64.wrap (x7 - 1)) (IntKind.u64.wrap (x8 + (IntKind.u64.wrap (rd x1 (wrap64 (x5 - 1))))))) else (none)) else (none)) else (if 0 ≤ (wrap64 (x5 - 2)) then (if (wrap64 (x5 - 2)) < (x1.length : Int) then (if (wrap64 (x5 - 2)) < (x0.length : Int) then (if (IntKind.u64.wrap (x7 * (IntKind.u64.wrap (rd x1 (wrap64 (x5 - 2)))))) > (Go.bits .or .u64 (IntKind.u64.wrap (x8 * 4294967296)) (IntKind.u64.wrap (rd x0 (wrap64 (x5 - 2))))) then (if 0 ≤ (wrap64 (x5 - 1)) then (if (wrap64 (x5 - 1)) < (x1.length : Int) then (nat_step.l0 k x0 x1 x5 (IntKind.u64.wrap (x7 - 1)) (IntKind.u64.wrap (x8 + (IntKind.u64.wrap (rd x1 (wrap64 (x5 - 1))))))) else (none)) else (none)) else (nat_step.j1 k x0 x1 x5 x7)) else (none)) else (none)) else (none))) else (nat_step.j1 k x0 x1 x5 x7)
end
def nat_step.f (k : Nat) (l0 : List Int) (l1 : List Int) : Option (Int × List Int) := if 0 ≤ (l1.length : Int) then (if (l1.length : Int) < (l0.length : Int) then (if 0 ≤ (wrap64 ((l1.length : Int) - 1)) then (if (wrap64 ((l1.length : Int) - 1)) < (l0.length : Int) then (if (wrap64 ((l1.length : Int) - 1)) < (l1.length : Int) then (if (IntKind.u64.wrap (rd l1 (wrap64 ((l1.length : Int) - 1)))) = 0 then (none) else (nat_step.l0 k l0 l1 (l1.length : Int) (IntKind.u64.wrap (Int.tdiv (Go.bits .or .u64 (IntKind.u64.wrap ((IntKind.u64.wrap (rd l0 (l1.length : Int))) * 4294967296)) (IntKind.u64.wrap (rd l0 (wrap64 ((l1.length : Int) - 1))))) (IntKind.u64.wrap (rd l1 (wrap64 ((l1.length : Int) - 1)))))) (Int.tmod (Go.bits .or .u64 (IntKind.u64.wrap ((IntKind.u64.wrap (rd l0 (l1.length : Int))) * 4294967296)) (IntKind.u64.wrap (rd l0 (wrap64 ((l1.length : Int) - 1))))) (IntKind.u64.wrap (rd l1 (wrap64 ((l1.length : Int) - 1))))))) else (none)) else (none)) else (none)) else (none)) else (none)
set_option maxHeartbeats 8000000 in
set_option maxRecDepth 100000 in
theorem nat_step.callsU (k : Nat) (ad213 : Addr) (co11 : Nat) (cap_ : Nat) (pre_ post_ : List Int) (P0_ : Nat → Prop) (l0 : List Int) (A1 : Option Addr) (c1 : Nat) (l1 : List Int) (r1 : Int) (r2 : List Int) (w0 w : World) (hB : Below w0.heap.size w0 w) (ho0 : Kd.U ad213 cap_ pre_ post_ (Kd.int .u32) 85 w w0.heap.size P0_ (.slice (some ad213) l0.length co11) l0) (hr1 : ∀ W_, Kept w W_ (fun k_ => P0_ k_) → Kd.C (Kd.int .u32) W_ A1 l1.length l1) (hc1 : l1.length ≤ c1) (h : nat_step.f k l0 l1 = some (r1, r2)) :
  Calls Try.prog 110 #[(.slice (some ad213) l0.length co11), .slice A1 l1.length c1] w fun e w' => e = .returned (.int .u32 r1) ∧ Kd.U ad213 cap_ pre_ post_ (Kd.int .u32) 85 w' w0.heap.size (fun k_ => (P0_ k_ ∨ w.heap.size ≤ k_)) (.slice (some ad213) l0.length co11) r2 ∧ Below w0.heap.size w0 w' ∧ Kept w w' (fun k_ => P0_ k_) := by
 have HO0 := zA (show Kd.U ad213 cap_ pre_ post_ (Kd.int .u32) 85 w w0.heap.size (fun k_ => (P0_ k_ ∨ w.heap.size ≤ k_)) (.slice (some ad213) l0.length co11) l0 from Kd.U_mono ho0 (fun k_ hk => (.inl hk)))
 have HR1 := zA hr1
 have HC1 := zA hc1
 clear hr1 hc1
 have HK := zA (Kept.refl w (fun k_ => P0_ k_))
 have HW0 := zA hB.size
 have HB := zA hB
 clear hB
 have H : (if 0 ≤ (l1.length : Int) then (if (l1.length : Int) < (l0.length : Int) then (if 0 ≤ (wrap64 ((l1.length : Int) - 1)) then (if (wrap64 ((l1.length : Int) - 1)) < (l0.length : Int) then (if (wrap64 ((l1.length : Int) - 1)) < (l1.length : Int) then (if (IntKind.u64.wrap (rd l1 (wrap64 ((l1.length : Int) - 1)))) = 0 then (none) else (nat_step.l0 k l0 l1 (l1.length : Int) (IntKind.u64.wrap (Int.tdiv (Go.bits .or .u64 (IntKind.u64.wrap ((IntKind.u64.wrap (rd l0 (l1.length : Int))) * 4294967296)) (IntKind.u64.wrap (rd l0 (wrap64 ((l1.length : Int) - 1))))) (IntKind.u64.wrap (rd l1 (wrap64 ((l1.length : Int) - 1)))))) (Int.tmod (Go.bits .or .u64 (IntKind.u64.wrap ((IntKind.u64.wrap (rd l0 (l1.length : Int))) * 4294967296)) (IntKind.u64.wrap (rd l0 (wrap64 ((l1.length : Int) - 1))))) (IntKind.u64.wrap (rd l1 (wrap64 ((l1.length : Int) - 1))))))) else (none)) else (none)) else (none)) else (none)) else (none)) = some (r1, r2) := h
 clear h
 by_cases c3 : 0 ≤ (l1.length : Int)
 ·
  rw [if_pos c3] at H
  have c3b0 : decide (0 ≤ (l1.length : Int)) = true := decide_eq_true c3
  have c3b1 : decide (0 ≤ l1.length) = true := decide_eq_true (by omega)
  clear c3
  by_cases c4 : (l1.length : Int) < (l0.length : Int)
  ·
   rw [if_pos c4] at H
   have c4b0 : decide ((l1.length : Int) < (l0.length : Int)) = true := decide_eq_true c4
   have c4b1 : decide (l1.length < l0.length) = true := decide_eq_true (Int.ofNat_lt.mp c4)
   clear c4
   obtain ⟨ji5, hji5⟩ : ∃ j_ : Int, (wrap64 ((l1.length : Int) - 1)) = j_ := ⟨_, rfl⟩
   replace H : (if 0 ≤ (ji5) then (if (ji5) < (l0.length : Int) then (if (ji5) < (l1.length : Int) then (if (IntKind.u64.wrap (rd l1 (ji5))) = 0 then (none) else (nat_step.l0 k l0 l1 (l1.length : Int) (IntKind.u64.wrap (Int.tdiv (Go.bits .or .u64 (IntKind.u64.wrap ((IntKind.u64.wrap (rd l0 (l1.length : Int))) * 4294967296)) (IntKind.u64.wrap (rd l0 (ji5)))) (IntKind.u64.wrap (rd l1 (ji5))))) (Int.tmod (Go.bits .or .u64 (IntKind.u64.wrap ((IntKind.u64.wrap (rd l0 (l1.length : Int))) * 4294967296)) (IntKind.u64.wrap (rd l0 (ji5)))) (IntKind.u64.wrap (rd l1 (ji5)))))) else (none)) else (none)) else (none)) = some (r1, r2) := by first | (rw [hji5] at H; exact H) | (simp only [hji5] at H ⊢; exact H)
   have hji5w : (IntKind.i64.wrap ((l1.length : Int) - 1)) = ji5 := (i64_w _).trans hji5
   by_cases c6 : 0 ≤ (ji5)
   ·
    rw [if_pos c6] at H
    have c6b0 : decide (0 ≤ (ji5)) = true := decide_eq_true c6
    clear c6
    by_cases c7 : (ji5) < (l0.length : Int)
    ·
     rw [if_pos c7] at H
     have c7b0 : decide ((ji5) < (l0.length : Int)) = true := decide_eq_true c7
     clear c7
     by_cases c8 : (ji5) < (l1.length : Int)
     ·
      rw [if_pos c8] at H
      have c8b0 : decide ((ji5) < (l1.length : Int)) = true := decide_eq_true c8
      clear c8
      by_cases c9 : (IntKind.u64.wrap (rd l1 (ji5))) = 0
      ·
       rw [if_pos c9] at H
       exact absurd H (by simp)
      ·
       rw [if_neg c9] at H
       have c9b0 : ((IntKind.u64.wrap (rd l1 (ji5))) == 0) = false := beq_eq_false_iff_ne.mpr c9
       have c9b1 : ((IntKind.u64.wrap (rd l1 (ji5))) != 0) = true := bne_iff_ne.mpr c9
       have HC10 := zA H
       clear H
       have p213 : 0 ≤ ((l1.length : Int) : Int) := of_decide_eq_true (by assumption)
       have q213 : (l1.length : Int) < (l0.length : Int) := of_decide_eq_true (by assumption)
       obtain ⟨ad213x, e213, hx213_0⟩ := Kd.at_int (Kd.U_reads' HO0.out).2.2 (l1.length : Int) p213 q213
       obtain rfl : ad213 = ad213x := (by injection e213)
       (try simp only [Go.IntWalk.toNatUp] at hx213_0)
       replace p213 := eq_true p213
       replace q213 := eq_true q213
       have p214 : 0 ≤ ((ji5) : Int) := of_decide_eq_true (by assumption)
       have q214 : (ji5) < (l0.length : Int) := of_decide_eq_true (by assumption)
       obtain ⟨ad214, e214, hx214_0⟩ := Kd.at_int (Kd.U_reads' HO0.out).2.2 (ji5) p214 q214
       obtain rfl : ad213 = ad214 := (by injection e214)
       replace p214 := eq_true p214
       replace q214 := eq_true q214
       have p215 : 0 ≤ ((ji5) : Int) := of_decide_eq_true (by assumption)
       have q215 : (ji5) < (l1.length : Int) := of_decide_eq_true (by assumption)
       obtain ⟨ad215, e215, hx215_0⟩ := Kd.at_int (Kd.C_kept_now HR1.out HK.out) (ji5) p215 q215
       cases e215
       replace p215 := eq_true p215
       replace q215 := eq_true q215
       have p216 : 0 ≤ ((ji5) : Int) := of_decide_eq_true (by assumption)
       have q216 : (ji5) < (l1.length : Int) := of_decide_eq_true (by assumption)
       obtain ⟨ad216, e216, hx216_0⟩ := Kd.at_int (Kd.C_kept_now HR1.out HK.out) (ji5) p216 q216
       obtain rfl : ad215 = ad216 := (by injection e216)
       replace p216 := eq_true p216
       replace q216 := eq_true q216
       go_enter Try.func110, Try.ntmps110
       go_upto_block 0 with (fail)
       repeat (go_quiet (fail); go_upto_block 0 with (fail))
       go_cut [7] (fun v7 wc => ∃ (kq : Nat) (x7_9 : Int), v7 = .int .u64 x7_9 ∧ Aside0 (nat_step.j1 kq l0 l1 (l1.length : Int) x7_9 = some (r1, r2)) ∧ Aside0 (kq ≤ k) ∧ Aside0 (Kd.U ad213 cap_ pre_ post_ (Kd.int .u32) 85 wc w0.heap.size (fun k_ => (P0_ k_ ∨ w.heap.size ≤ k_)) (.slice (some ad213) l0.length co11) l0) ∧ Aside0 (Kept w wc (fun k_ => P0_ k_)) ∧ Aside0 (Below w0.heap.size w0 wc))
       case first =>
        have H := HC10.out
        clear HC10
        have H' := zA H
        clear H
        go_wp2
        repeat (go_quiet (fail); try go_wp2)
        go_loopg [7, 8] k (fun kq v7 v8 w' => ∃ (x7_1 : Int) (x8_1 : Int), v7 = .int .u64 x7_1 ∧ v8 = .int .u64 x8_1 ∧ Aside0 (nat_step.l0 kq l0 l1 (l1.length : Int) x7_1 x8_1 = some (r1, r2)) ∧ Aside0 (kq ≤ k) ∧ Aside0 (Kd.U ad213 cap_ pre_ post_ (Kd.int .u32) 85 w' w0.heap.size (fun k_ => (P0_ k_ ∨ w.heap.size ≤ k_)) (.slice (some ad213) l0.length co11) l0) ∧ Aside0 (Kept w w' (fun k_ => P0_ k_)) ∧ Aside0 (Below w0.heap.size w0 w'))
        case atStart => exact ⟨(IntKind.u64.wrap (Int.tdiv (Go.bits .or .u64 (IntKind.u64.wrap ((IntKind.u64.wrap (rd l0 (l1.length : Int))) * 4294967296)) (IntKind.u64.wrap (rd l0 (ji5)))) (IntKind.u64.wrap (rd l1 (ji5))))), (Int.tmod (Go.bits .or .u64 (IntKind.u64.wrap ((IntKind.u64.wrap (rd l0 (l1.length : Int))) * 4294967296)) (IntKind.u64.wrap (rd l0 (ji5)))) (IntKind.u64.wrap (rd l1 (ji5)))), (by first | rfl | (simp; done) | (simp only [← hji5] <;> (first | rfl | simp)) | (simp [*]; done)), (by first | rfl | (simp; done) | (simp only [← hji5] <;> (first | rfl | simp)) | (simp [*]; done)), H', ⟨Nat.le_refl _⟩, ⟨by (with_reducible repeat (first | apply Kd.U_alloc | apply Kd.U_drewN | apply Kd.U_drew)); exact HO0.out⟩, ⟨by exact zP HK⟩, ⟨by exact zB HB⟩⟩
        case round =>
         clear H'
         try clear c1
         try clear p2
         try clear q2
         try clear hx2
         try clear c3
         try clear c3b0
         try clear c3b1
         try clear c4
         try clear c4b0
         try clear c4b1
         try clear c6
         try clear c6b0
         try clear p6
         try clear c7
         try clear c7b0
         try clear c8
         try clear c8b0
         try clear c9
         try clear c9b0
         try clear c9b1
         try clear c11
         try clear hx213_0
         try clear hx214_0
         try clear hx215_0
         try clear hx216_0
         try clear p213
         try clear p214
         try clear p215
         try clear p216
         try clear q213
         try clear q214
         try clear q215
         try clear q216
         obtain ⟨x7_1, x8_1, rfl, rfl, HA, HK1, HO_0, HK, HB⟩ := hrel
         cases gk with
         | zero => exact absurd HA.out (by simp [nat_step.l0])
         | succ k1 =>
          have H := HA.out
          clear HA
          simp only [nat_step.l0] at H
          by_cases c12 : x8_1 < 4294967296
          ·
           rw [if_pos c12] at H
           have c12b0 : decide (x8_1 < 4294967296) = true := decide_eq_true c12
           clear c12
           (first | rw [c12b0] | (simp only [i64_w, i32_w]; rw [c12b0]) | rw [c12b1] | rw [c12b2] | skip)
           by_cases c13 : x7_1 ≥ 4294967296
           ·
            rw [if_pos c13] at H
            have c13b0 : decide (4294967296 ≤ x7_1) = true := decide_eq_true c13
            clear c13
            obtain ⟨ji14, hji14⟩ : ∃ j_ : Int, (wrap64 ((l1.length : Int) - 1)) = j_ := ⟨_, rfl⟩
            replace H : (if 0 ≤ (ji14) then (if (ji14) < (l1.length : Int) then (nat_step.l0 k1 l0 l1 (l1.length : Int) (IntKind.u64.wrap (x7_1 - 1)) (IntKind.u64.wrap (x8_1 + (IntKind.u64.wrap (rd l1 (ji14)))))) else (none)) else (none)) = some (r1, r2) := by first | (rw [hji14] at H; exact H) | (simp only [hji14] at H ⊢; exact H)
            have hji14w : (IntKind.i64.wrap ((l1.length : Int) - 1)) = ji14 := (i64_w _).trans hji14
            (try clear hji5 hji5w)
            by_cases c15 : 0 ≤ (ji14)
            ·
             rw [if_pos c15] at H
             have c15b0 : decide (0 ≤ (ji14)) = true := decide_eq_true c15
             clear c15
             by_cases c16 : (ji14) < (l1.length : Int)
             ·
              rw [if_pos c16] at H
              have c16b0 : decide ((ji14) < (l1.length : Int)) = true := decide_eq_true c16
              clear c16
              have H' := zA H
              clear H
              have p217 : 0 ≤ ((ji14) : Int) := of_decide_eq_true (by assumption)
              have q217 : (ji14) < (l1.length : Int) := of_decide_eq_true (by assumption)
              obtain ⟨ad217, e217, hx217_0⟩ := Kd.at_int (Kd.C_kept_now HR1.out HK.out) (ji14) p217 q217
              obtain rfl : ad215 = ad217 := (by injection e217)
              replace p217 := eq_true p217
              replace q217 := eq_true q217
              go_wp2
              repeat (go_quiet (fail); try go_wp2)
              go_roundg k1
              case measure => have := HK1.out; omega
              case rel => exact ⟨(IntKind.u64.wrap (x7_1 - 1)), (IntKind.u64.wrap (x8_1 + (IntKind.u64.wrap (rd l1 (ji14))))), (by first | rfl | (simp; done) | (simp [*]; done)), (by first | rfl | (simp; done) | (simp only [← hji14] <;> (first | rfl | simp)) | (simp [*]; done)), H', ⟨by have := HK1.out; omega⟩, ⟨by (with_reducible repeat (first | apply Kd.U_alloc | apply Kd.U_drewN | apply Kd.U_drew)); exact HO_0.out⟩, ⟨by exact zP HK⟩, ⟨by exact zB HB⟩⟩
             ·
              rw [if_neg c16] at H
              exact absurd H (by simp)
            ·
             rw [if_neg c15] at H
             exact absurd H (by simp)
           ·
            rw [if_neg c13] at H
            have c13b0 : decide (4294967296 ≤ x7_1) = false := decide_eq_false c13
            clear c13
            obtain ⟨ji17, hji17⟩ : ∃ j_ : Int, (wrap64 ((l1.length : Int) - 2)) = j_ := ⟨_, rfl⟩
            replace H : (if 0 ≤ (ji17) then (if (ji17) < (l1.length : Int) then (if (ji17) < (l0.length : Int) then (if (IntKind.u64.wrap (x7_1 * (IntKind.u64.wrap (rd l1 (ji17))))) > (Go.bits .or .u64 (IntKind.u64.wrap (x8_1 * 4294967296)) (IntKind.u64.wrap (rd l0 (ji17)))) then (if 0 ≤ (wrap64 ((l1.length : Int) - 1)) then (if (wrap64 ((l1.length : Int) - 1)) < (l1.length : Int) then (nat_step.l0 k1 l0 l1 (l1.length : Int) (IntKind.u64.wrap (x7_1 - 1)) (IntKind.u64.wrap (x8_1 + (IntKind.u64.wrap (rd l1 (wrap64 ((l1.length : Int) - 1))))))) else (none)) else (none)) else (nat_step.j1 k1 l0 l1 (l1.length : Int) x7_1)) else (none)) else (none)) else (none)) = some (r1, r2) := by first | (rw [hji17] at H; exact H) | (simp only [hji17] at H ⊢; exact H)
            have hji17w : (IntKind.i64.wrap ((l1.length : Int) - 2)) = ji17 := (i64_w _).trans hji17
            by_cases c18 : 0 ≤ (ji17)
            ·
             rw [if_pos c18] at H
             have c18b0 : decide (0 ≤ (ji17)) = true := decide_eq_true c18
             clear c18
             by_cases c19 : (ji17) < (l1.length : Int)
             ·
              rw [if_pos c19] at H
              have c19b0 : decide ((ji17) < (l1.length : Int)) = true := decide_eq_true c19
              clear c19
              by_cases c20 : (ji17) < (l0.length : Int)
              ·
               rw [if_pos c20] at H
               have c20b0 : decide ((ji17) < (l0.length : Int)) = true := decide_eq_true c20
               clear c20
               by_cases c21 : (IntKind.u64.wrap (x7_1 * (IntKind.u64.wrap (rd l1 (ji17))))) > (Go.bits .or .u64 (IntKind.u64.wrap (x8_1 * 4294967296)) (IntKind.u64.wrap (rd l0 (ji17))))
               ·
                rw [if_pos c21] at H
                have c21b0 : decide ((Go.bits .or .u64 (IntKind.u64.wrap (x8_1 * 4294967296)) (IntKind.u64.wrap (rd l0 (ji17)))) < (IntKind.u64.wrap (x7_1 * (IntKind.u64.wrap (rd l1 (ji17)))))) = true := decide_eq_true c21
                clear c21
                obtain ⟨ji22, hji22⟩ : ∃ j_ : Int, (wrap64 ((l1.length : Int) - 1)) = j_ := ⟨_, rfl⟩
                replace H : (if 0 ≤ (ji22) then (if (ji22) < (l1.length : Int) then (nat_step.l0 k1 l0 l1 (l1.length : Int) (IntKind.u64.wrap (x7_1 - 1)) (IntKind.u64.wrap (x8_1 + (IntKind.u64.wrap (rd l1 (ji22)))))) else (none)) else (none)) = some (r1, r2) := by first | (rw [hji22] at H; exact H) | (simp only [hji22] at H ⊢; exact H)
                have hji22w : (IntKind.i64.wrap ((l1.length : Int) - 1)) = ji22 := (i64_w _).trans hji22
                (try clear hji5 hji5w)
                by_cases c23 : 0 ≤ (ji22)
                ·
                 rw [if_pos c23] at H
                 have c23b0 : decide (0 ≤ (ji22)) = true := decide_eq_true c23
                 clear c23
                 by_cases c24 : (ji22) < (l1.length : Int)
                 ·
                  rw [if_pos c24] at H
                  have c24b0 : decide ((ji22) < (l1.length : Int)) = true := decide_eq_true c24
                  clear c24
                  have H' := zA H
                  clear H
                  have p218 : 0 ≤ ((ji17) : Int) := of_decide_eq_true (by assumption)
                  have q218 : (ji17) < (l1.length : Int) := of_decide_eq_true (by assumption)
                  obtain ⟨ad218, e218, hx218_0⟩ := Kd.at_int (Kd.C_kept_now HR1.out HK.out) (ji17) p218 q218
                  obtain rfl : ad215 = ad218 := (by injection e218)
                  replace p218 := eq_true p218
                  replace q218 := eq_true q218
                  have p219 : 0 ≤ ((ji17) : Int) := of_decide_eq_true (by assumption)
                  have q219 : (ji17) < (l0.length : Int) := of_decide_eq_true (by assumption)
                  obtain ⟨ad219, e219, hx219_0⟩ := Kd.at_int (Kd.U_reads' HO_0.out).2.2 (ji17) p219 q219
                  obtain rfl : ad213 = ad219 := (by injection e219)
                  replace p219 := eq_true p219
                  replace q219 := eq_true q219
                  have p220 : 0 ≤ ((ji22) : Int) := of_decide_eq_true (by assumption)
                  have q220 : (ji22) < (l1.length : Int) := of_decide_eq_true (by assumption)
                  obtain ⟨ad220, e220, hx220_0⟩ := Kd.at_int (Kd.C_kept_now HR1.out HK.out) (ji22) p220 q220
                  obtain rfl : ad215 = ad220 := (by injection e220)
                  replace p220 := eq_true p220
                  replace q220 := eq_true q220
                  go_wp2
                  repeat (go_quiet (fail); try go_wp2)
                  go_roundg k1
                  case measure => have := HK1.out; omega
                  case rel => exact ⟨(IntKind.u64.wrap (x7_1 - 1)), (IntKind.u64.wrap (x8_1 + (IntKind.u64.wrap (rd l1 (ji22))))), (by first | rfl | (simp; done) | (simp [*]; done)), (by first | rfl | (simp; done) | (simp only [← hji22] <;> (first | rfl | simp)) | (simp [*]; done)), H', ⟨by have := HK1.out; omega⟩, ⟨by (with_reducible repeat (first | apply Kd.U_alloc | apply Kd.U_drewN | apply Kd.U_drew)); exact HO_0.out⟩, ⟨by exact zP HK⟩, ⟨by exact zB HB⟩⟩
                 ·
                  rw [if_neg c24] at H
                  exact absurd H (by simp)
                ·
                 rw [if_neg c23] at H
                 exact absurd H (by simp)
               ·
                rw [if_neg c21] at H
                have c21b0 : decide ((Go.bits .or .u64 (IntKind.u64.wrap (x8_1 * 4294967296)) (IntKind.u64.wrap (rd l0 (ji17)))) < (IntKind.u64.wrap (x7_1 * (IntKind.u64.wrap (rd l1 (ji17)))))) = false := decide_eq_false c21
                clear c21
                have H' := zA H
                clear H
                have p218 : 0 ≤ ((ji17) : Int) := of_decide_eq_true (by assumption)
                have q218 : (ji17) < (l1.length : Int) := of_decide_eq_true (by assumption)
                obtain ⟨ad218, e218, hx218_0⟩ := Kd.at_int (Kd.C_kept_now HR1.out HK.out) (ji17) p218 q218
                obtain rfl : ad215 = ad218 := (by injection e218)
                replace p218 := eq_true p218
                replace q218 := eq_true q218
                have p219 : 0 ≤ ((ji17) : Int) := of_decide_eq_true (by assumption)
                have q219 : (ji17) < (l0.length : Int) := of_decide_eq_true (by assumption)
                obtain ⟨ad219, e219, hx219_0⟩ := Kd.at_int (Kd.U_reads' HO_0.out).2.2 (ji17) p219 q219
                obtain rfl : ad213 = ad219 := (by injection e219)
                replace p219 := eq_true p219
                replace q219 := eq_true q219
                go_wp2
                repeat (go_quiet (fail); try go_wp2)
                go_meet
                case rel => exact ⟨_, (x7_1), (by first | rfl | (simp; done) | (simp [*]; done)), H', ⟨by have := HK1.out; first | omega | exact Nat.le_refl _⟩, ⟨by (with_reducible repeat (first | apply Kd.U_alloc | apply Kd.U_drewN | apply Kd.U_drew)); exact HO_0.out⟩, ⟨by exact zP HK⟩, ⟨by exact zB HB⟩⟩
              ·
               rw [if_neg c20] at H
               exact absurd H (by simp)
             ·
              rw [if_neg c19] at H
              exact absurd H (by simp)
            ·
             rw [if_neg c18] at H
             exact absurd H (by simp)
          ·
           rw [if_neg c12] at H
           have c12b0 : decide (x8_1 < 4294967296) = false := decide_eq_false c12
           clear c12
           (first | rw [c12b0] | (simp only [i64_w, i32_w]; rw [c12b0]) | rw [c12b1] | rw [c12b2] | skip)
           have H' := zA H
           clear H
           go_wp2
           repeat (go_quiet (fail); try go_wp2)
           go_meet
           case rel => exact ⟨_, (x7_1), (by first | rfl | (simp; done) | (simp [*]; done)), H', ⟨by have := HK1.out; first | omega | exact Nat.le_refl _⟩, ⟨by (with_reducible repeat (first | apply Kd.U_alloc | apply Kd.U_drewN | apply Kd.U_drew)); exact HO_0.out⟩, ⟨by exact zP HK⟩, ⟨by exact zB HB⟩⟩
       case rest =>
        clear HC10
        try clear c1
        try clear c2
        try clear p2
        try clear q2
        try clear hx2
        try clear c3
        try clear c3b0
        try clear c3b1
        try clear c4
        try clear c4b0
        try clear c4b1
        try clear c6
        try clear c6b0
        try clear p6
        try clear c7
        try clear c7b0
        try clear c8
        try clear c8b0
        try clear c9
        try clear c9b0
        try clear c9b1
        try clear c11
        try clear c12
        try clear c12b0
        try clear c13
        try clear c13b0
        try clear c15
        try clear c15b0
        try clear c16
        try clear c16b0
        try clear c18
        try clear c18b0
        try clear c19
        try clear c19b0
        try clear c20
        try clear c20b0
        try clear c21
        try clear c21b0
        try clear p21
        try clear q21
        try clear hx21
        try clear p22
        try clear q22
        try clear hx22
        try clear c23
        try clear c23b0
        try clear c24
        try clear c24b0
        try clear hx213_0
        try clear hx214_0
        try clear hx215_0
        try clear hx216_0
        try clear hx217_0
        try clear hx218_0
        try clear hx219_0
        try clear hx220_0
        try clear p2
        try clear p213
        try clear p214
        try clear p215
        try clear p216
        try clear p217
        try clear p218
        try clear p219
        try clear p220
        try clear p6
        try clear q2
        try clear q213
        try clear q214
        try clear q215
        try clear q216
        try clear q217
        try clear q218
        try clear q219
        try clear q220
        obtain ⟨kq, x7_9, rfl, HA, HJ9, HO_0, HK, HB⟩ := hcut
        cases kq with
        | zero => exact absurd HA.out (by simp [nat_step.j1])
        | succ kj9 =>
         have H := HA.out
         clear HA
         simp only [nat_step.j1] at H
         have H' := zA H
         clear H
         go_wp2
         repeat (go_quiet (fail); try go_wp2)
         go_loopg [9, 10, 86] kj9 (fun kq v9 v10 v86 w' => ∃ (x0_2 : List Int) (x9_2 : Int) (x10_2 : Int) (x86_2 : Int), v9 = .int .u64 x9_2 ∧ v10 = .int .u64 x10_2 ∧ v86 = .int .i64 x86_2 ∧ Aside0 (nat_step.l1 kq x0_2 l1 (l1.length : Int) x7_9 x9_2 x10_2 (l1.length : Int) x86_2 = some (r1, r2)) ∧ Aside0 (kq ≤ kj9) ∧ Aside0 (Kd.U ad213 cap_ pre_ post_ (Kd.int .u32) 85 w' w0.heap.size (fun k_ => (P0_ k_ ∨ w.heap.size ≤ k_)) (.slice (some ad213) l0.length co11) x0_2) ∧ Aside0 (Kept w w' (fun k_ => P0_ k_)) ∧ Aside0 (Below w0.heap.size w0 w'))
         case atStart => exact ⟨(l0), (0), (0), (0), (by first | rfl | (simp; done) | (simp [*]; done)), (by first | rfl | (simp; done) | (simp [*]; done)), (by first | rfl | (simp; done) | (simp [*]; done)), H', ⟨Nat.le_refl _⟩, ⟨by (with_reducible repeat (first | apply Kd.U_alloc | apply Kd.U_drewN | apply Kd.U_drew)); exact HO_0.out⟩, ⟨by exact zP HK⟩, ⟨by exact zB HB⟩⟩
         case round =>
          clear H'
          try clear c1
          try clear c2
          try clear p2
          try clear q2
          try clear hx2
          try clear c3
          try clear c3b0
          try clear c3b1
          try clear c4
          try clear c4b0
          try clear c4b1
          try clear c6
          try clear c6b0
          try clear p6
          try clear c7
          try clear c7b0
          try clear c8
          try clear c8b0
          try clear c9
          try clear c9b0
          try clear c9b1
          try clear c11
          try clear c12
          try clear c12b0
          try clear c13
          try clear c13b0
          try clear c15
          try clear c15b0
          try clear c16
          try clear c16b0
          try clear c18
          try clear c18b0
          try clear c19
          try clear c19b0
          try clear c20
          try clear c20b0
          try clear c21
          try clear c21b0
          try clear p21
          try clear q21
          try clear hx21
          try clear p22
          try clear q22
          try clear hx22
          try clear c23
          try clear c23b0
          try clear c24
          try clear c24b0
          try clear hx213_0
          try clear hx214_0
          try clear hx215_0
          try clear hx216_0
          try clear hx217_0
          try clear hx218_0
          try clear hx219_0
          try clear hx220_0
          try clear p2
          try clear p21
          try clear p213
          try clear p214
          try clear p215
          try clear p216
          try clear p217
          try clear p218
          try clear p219
          try clear p22
          try clear p220
          try clear p6
          try clear q2
          try clear q21
          try clear q213
          try clear q214
          try clear q215
          try clear q216
          try clear q217
          try clear q218
          try clear q219
          try clear q22
          try clear q220
          obtain ⟨x0_2, x9_2, x10_2, x86_2, rfl, rfl, rfl, HA, HK2, HO_0, HK, HB⟩ := hrel
          have hl0_2 := (Kd.U_reads' HO_0.out).1
          rw [hl0_2] at HO_0
          (try simp only [hl0_2])
          cases gk with
          | zero => exact absurd HA.out (by simp [nat_step.l1])
          | succ k2 =>
           have H := HA.out
           clear HA
           simp only [nat_step.l1] at H
           by_cases c25 : x86_2 < (l1.length : Int)
           ·
            rw [if_pos c25] at H
            have c25b0 : decide (x86_2 < (l1.length : Int)) = true := decide_eq_true c25
            clear c25
            by_cases c26 : 0 ≤ x86_2
            ·
             rw [if_pos c26] at H
             have c26b0 : decide (0 ≤ x86_2) = true := decide_eq_true c26
             clear c26
             by_cases c27 : x86_2 < (l1.length : Int)
             ·
              rw [if_pos c27] at H
              have c27b0 : decide (x86_2 < (l1.length : Int)) = true := decide_eq_true c27
              clear c27
              by_cases c28 : x86_2 < (x0_2.length : Int)
              ·
               rw [if_pos c28] at H
               have c28b0 : decide (x86_2 < (x0_2.length : Int)) = true := decide_eq_true c28
               clear c28
               obtain ⟨y223, hy223⟩ : ∃ y_ : List Int, y_ = (x0_2.set (x86_2 : Int).toNat ((IntKind.u64.wrap ((IntKind.u64.wrap ((IntKind.u64.wrap (rd x0_2 x86_2)) - ((IntKind.u64.wrap ((IntKind.u64.wrap (x7_9 * (IntKind.u64.wrap (rd l1 x86_2)))) + x10_2)) % 4294967296))) - x9_2)) % 4294967296)) := ⟨_, rfl⟩
               replace H : (nat_step.l1 k2 y223 l1 (l1.length : Int) x7_9 ((IntKind.u64.wrap ((IntKind.u64.wrap ((IntKind.u64.wrap (rd x0_2 x86_2)) - ((IntKind.u64.wrap ((IntKind.u64.wrap (x7_9 * (IntKind.u64.wrap (rd l1 x86_2)))) + x10_2)) % 4294967296))) - x9_2)) / 9223372036854775808) ((IntKind.u64.wrap ((IntKind.u64.wrap (x7_9 * (IntKind.u64.wrap (rd l1 x86_2)))) + x10_2)) / 4294967296) (l1.length : Int) (wrap64 (x86_2 + 1))) = some (r1, r2) := by first | (rw [hy223]; with_reducible exact H) | (have H := (Option.bind_some _ _).symm.trans H; first | (rw [hy223]; with_reducible exact H) | with_reducible exact H) | (rw [hy223]; exact H) | exact H
               have Ny223 := zA hy223
               clear hy223
               have H' := zA H
               clear H
               have p221 : 0 ≤ (x86_2 : Int) := of_decide_eq_true (by assumption)
               have q221 : x86_2 < (l1.length : Int) := of_decide_eq_true (by assumption)
               obtain ⟨ad221, e221, hx221_0⟩ := Kd.at_int (Kd.C_kept_now HR1.out HK.out) x86_2 p221 q221
               obtain rfl : ad215 = ad221 := (by injection e221)
               replace p221 := eq_true p221
               replace q221 := eq_true q221
               have p222 : 0 ≤ (x86_2 : Int) := of_decide_eq_true (by assumption)
               have q222 : x86_2 < (x0_2.length : Int) := of_decide_eq_true (by assumption)
               obtain ⟨ad222, e222, hx222_0⟩ := Kd.at_int (Kd.U_reads' HO_0.out).2.2 x86_2 p222 q222
               obtain rfl : ad213 = ad222 := (by injection e222)
               replace p222 := eq_true p222
               replace q222 := eq_true q222
               have p29 : 0 ≤ (x86_2 : Int) := of_decide_eq_true (by assumption)
               have q29 : (x86_2 : Int) < ((x0_2.length : Int) : Int) := of_decide_eq_true (by assumption)
               have GB29 := zA (Kd.U_base HO_0.out)
               have HMgo29 := zA (show (P0_ ad213.block ∨ w.heap.size ≤ ad213.block) from (HO_0.out.1 _ rfl))
               (first | simp only [add_plain] at hx213_0 | skip)
               (first | simp only [add_plain] at hx214_0 | skip)
               (first | simp only [add_plain] at hx219_0 | skip)
               (first | simp only [add_plain] at hx222_0 | skip)
               obtain ⟨hx29_0, hf29_0⟩ := Kd.U_celln 0 HO_0.out (x86_2 : Int) p29 q29
               replace p29 := eq_true p29
               replace q29 := eq_true q29
               have HP30 := Kd.U_putg HO_0.out (x86_2 : Int) (of_eq_true p29) (of_eq_true q29) ((IntKind.u64.wrap ((IntKind.u64.wrap ((IntKind.u64.wrap (rd x0_2 x86_2)) - ((IntKind.u64.wrap ((IntKind.u64.wrap (x7_9 * (IntKind.u64.wrap (rd l1 x86_2)))) + x10_2)) % 4294967296))) - x9_2)) % 4294967296)
               go_wp2_with (first | ((with_reducible refine gate_store (t := 85) (p := 115) rfl ?_); (try (rw [drewN_self wr]; generalize hq_ : World.drewN wr _ = wr; have n0_ := zA (Kd.U_at hq_ HO_0.out); have n1_ := zA (kept_at hq_ HK.out); have n2_ := zA (below_at hq_ HB.out); clear hq_ HO_0 HK HB; have HO_0 := n0_; have HK := n1_; have HB := n2_; clear n0_ n1_ n2_; (try (have HP30 := Kd.U_putg HO_0.out (x86_2 : Int) (of_eq_true p29) (of_eq_true q29) ((IntKind.u64.wrap ((IntKind.u64.wrap ((IntKind.u64.wrap (rd x0_2 x86_2)) - ((IntKind.u64.wrap ((IntKind.u64.wrap (x7_9 * (IntKind.u64.wrap (rd l1 x86_2)))) + x10_2)) % 4294967296))) - x9_2)) % 4294967296))))); (try (have hxn_ := Kd.U_celln 0 HO_0.out (x86_2 : Int) (of_eq_true p29) (of_eq_true q29); clear hx29_0 hf29_0; have hx29_0 := hxn_.1; have hf29_0 := hxn_.2; clear hxn_; (try simp only [Int.toNat_natCast] at hx29_0 hf29_0))); refine store_event (t := 85) (p := 115) (v := ?vo_w31) (w1 := (wr.setCell (ad213.add (x86_2 : Int).toNat) (.int .u32 ((IntKind.u64.wrap ((IntKind.u64.wrap ((IntKind.u64.wrap (rd x0_2 x86_2)) - ((IntKind.u64.wrap ((IntKind.u64.wrap (x7_9 * (IntKind.u64.wrap (rd l1 x86_2)))) + x10_2)) % 4294967296))) - x9_2)) % 4294967296)))) ?hg ?ho ?hn ?hr ?_; (case ho => rfl); (case hg => rfl); (case hn => rfl); (case hr => first | (go_simp; done) | (go_simp; rfl)); intro w31 hw; have hg : wr.grownBy w31 (some ad213.block) := (by rw [hw]; exact HP30.2); have hp_ : Kd.U ad213 cap_ pre_ post_ (Kd.int .u32) 85 w31 w0.heap.size (fun k_ => (P0_ k_ ∨ w.heap.size ≤ k_)) (.slice (some ad213) x0_2.length co11) y223 := (by rw [hw, Ny223.out]; exact HP30.1); clear HP30; replace HB := zA ((by rw [hw]; exact below_setU (HB.out) GB29.out : Below w0.heap.size w0 w31)); replace HK := zA (Kept.of_grown (S := (fun k_ => P0_ k_)) hg (by exact zP HK) (fun k_ e_ => (HO_0.out.1 k_ e_))); replace HO_0 := zA (hp_); clear hg hw hp_))
               repeat (go_quiet (first | ((with_reducible refine gate_store (t := 85) (p := 115) rfl ?_); (try (rw [drewN_self wr]; generalize hq_ : World.drewN wr _ = wr; have n0_ := zA (Kd.U_at hq_ HO_0.out); have n1_ := zA (kept_at hq_ HK.out); have n2_ := zA (below_at hq_ HB.out); clear hq_ HO_0 HK HB; have HO_0 := n0_; have HK := n1_; have HB := n2_; clear n0_ n1_ n2_; (try (have HP30 := Kd.U_putg HO_0.out (x86_2 : Int) (of_eq_true p29) (of_eq_true q29) ((IntKind.u64.wrap ((IntKind.u64.wrap ((IntKind.u64.wrap (rd x0_2 x86_2)) - ((IntKind.u64.wrap ((IntKind.u64.wrap (x7_9 * (IntKind.u64.wrap (rd l1 x86_2)))) + x10_2)) % 4294967296))) - x9_2)) % 4294967296))))); (try (have hxn_ := Kd.U_celln 0 HO_0.out (x86_2 : Int) (of_eq_true p29) (of_eq_true q29); clear hx29_0 hf29_0; have hx29_0 := hxn_.1; have hf29_0 := hxn_.2; clear hxn_; (try simp only [Int.toNat_natCast] at hx29_0 hf29_0))); refine store_event (t := 85) (p := 115) (v := ?vo_w31) (w1 := (wr.setCell (ad213.add (x86_2 : Int).toNat) (.int .u32 ((IntKind.u64.wrap ((IntKind.u64.wrap ((IntKind.u64.wrap (rd x0_2 x86_2)) - ((IntKind.u64.wrap ((IntKind.u64.wrap (x7_9 * (IntKind.u64.wrap (rd l1 x86_2)))) + x10_2)) % 4294967296))) - x9_2)) % 4294967296)))) ?hg ?ho ?hn ?hr ?_; (case ho => rfl); (case hg => rfl); (case hn => rfl); (case hr => first | (go_simp; done) | (go_simp; rfl)); intro w31 hw; have hg : wr.grownBy w31 (some ad213.block) := (by rw [hw]; exact HP30.2); have hp_ : Kd.U ad213 cap_ pre_ post_ (Kd.int .u32) 85 w31 w0.heap.size (fun k_ => (P0_ k_ ∨ w.heap.size ≤ k_)) (.slice (some ad213) x0_2.length co11) y223 := (by rw [hw, Ny223.out]; exact HP30.1); clear HP30; replace HB := zA ((by rw [hw]; exact below_setU (HB.out) GB29.out : Below w0.heap.size w0 w31)); replace HK := zA (Kept.of_grown (S := (fun k_ => P0_ k_)) hg (by exact zP HK) (fun k_ e_ => (HO_0.out.1 k_ e_))); replace HO_0 := zA (hp_); clear hg hw hp_)); try go_wp2_with (first | ((with_reducible refine gate_store (t := 85) (p := 115) rfl ?_); (try (rw [drewN_self wr]; generalize hq_ : World.drewN wr _ = wr; have n0_ := zA (Kd.U_at hq_ HO_0.out); have n1_ := zA (kept_at hq_ HK.out); have n2_ := zA (below_at hq_ HB.out); clear hq_ HO_0 HK HB; have HO_0 := n0_; have HK := n1_; have HB := n2_; clear n0_ n1_ n2_; (try (have HP30 := Kd.U_putg HO_0.out (x86_2 : Int) (of_eq_true p29) (of_eq_true q29) ((IntKind.u64.wrap ((IntKind.u64.wrap ((IntKind.u64.wrap (rd x0_2 x86_2)) - ((IntKind.u64.wrap ((IntKind.u64.wrap (x7_9 * (IntKind.u64.wrap (rd l1 x86_2)))) + x10_2)) % 4294967296))) - x9_2)) % 4294967296))))); (try (have hxn_ := Kd.U_celln 0 HO_0.out (x86_2 : Int) (of_eq_true p29) (of_eq_true q29); clear hx29_0 hf29_0; have hx29_0 := hxn_.1; have hf29_0 := hxn_.2; clear hxn_; (try simp only [Int.toNat_natCast] at hx29_0 hf29_0))); refine store_event (t := 85) (p := 115) (v := ?vo_w31) (w1 := (wr.setCell (ad213.add (x86_2 : Int).toNat) (.int .u32 ((IntKind.u64.wrap ((IntKind.u64.wrap ((IntKind.u64.wrap (rd x0_2 x86_2)) - ((IntKind.u64.wrap ((IntKind.u64.wrap (x7_9 * (IntKind.u64.wrap (rd l1 x86_2)))) + x10_2)) % 4294967296))) - x9_2)) % 4294967296)))) ?hg ?ho ?hn ?hr ?_; (case ho => rfl); (case hg => rfl); (case hn => rfl); (case hr => first | (go_simp; done) | (go_simp; rfl)); intro w31 hw; have hg : wr.grownBy w31 (some ad213.block) := (by rw [hw]; exact HP30.2); have hp_ : Kd.U ad213 cap_ pre_ post_ (Kd.int .u32) 85 w31 w0.heap.size (fun k_ => (P0_ k_ ∨ w.heap.size ≤ k_)) (.slice (some ad213) x0_2.length co11) y223 := (by rw [hw, Ny223.out]; exact HP30.1); clear HP30; replace HB := zA ((by rw [hw]; exact below_setU (HB.out) GB29.out : Below w0.heap.size w0 w31)); replace HK := zA (Kept.of_grown (S := (fun k_ => P0_ k_)) hg (by exact zP HK) (fun k_ e_ => (HO_0.out.1 k_ e_))); replace HO_0 := zA (hp_); clear hg hw hp_)))
               (try simp only [← hl0_2])
               go_roundg k2
               case measure => have := HJ9.out; have := HK2.out; omega
               case rel => exact ⟨(y223), ((IntKind.u64.wrap ((IntKind.u64.wrap ((IntKind.u64.wrap (rd x0_2 x86_2)) - ((IntKind.u64.wrap ((IntKind.u64.wrap (x7_9 * (IntKind.u64.wrap (rd l1 x86_2)))) + x10_2)) % 4294967296))) - x9_2)) / 9223372036854775808), ((IntKind.u64.wrap ((IntKind.u64.wrap (x7_9 * (IntKind.u64.wrap (rd l1 x86_2)))) + x10_2)) / 4294967296), (wrap64 (x86_2 + 1)), (by first | rfl | (simp; done) | (simp [*]; done)), (by first | rfl | (simp; done) | (simp [*]; done)), (by first | rfl | (simp; done) | (simp [*]; done)), H', ⟨by have := HJ9.out; have := HK2.out; omega⟩, ⟨by (try simp only [hl0_2]); (with_reducible repeat (first | apply Kd.U_alloc | apply Kd.U_drewN | apply Kd.U_drew)); exact HO_0.out⟩, ⟨by exact zP HK⟩, ⟨by exact zB HB⟩⟩
              ·
               rw [if_neg c28] at H
               exact absurd H (by simp)
             ·
              rw [if_neg c27] at H
              exact absurd H (by simp)
            ·
             rw [if_neg c26] at H
             exact absurd H (by simp)
           ·
            rw [if_neg c25] at H
            have c25b0 : decide (x86_2 < (l1.length : Int)) = false := decide_eq_false c25
            clear c25
            by_cases c32 : 0 ≤ (l1.length : Int)
            ·
             rw [if_pos c32] at H
             have c32b0 : decide (0 ≤ (l1.length : Int)) = true := decide_eq_true c32
             have c32b1 : decide (0 ≤ l1.length) = true := decide_eq_true (by omega)
             clear c32
             by_cases c33 : (l1.length : Int) < (x0_2.length : Int)
             ·
              rw [if_pos c33] at H
              have c33b0 : decide ((l1.length : Int) < (x0_2.length : Int)) = true := decide_eq_true c33
              have c33b1 : decide (l1.length < x0_2.length) = true := decide_eq_true (Int.ofNat_lt.mp c33)
              clear c33
              obtain ⟨y225, hy225⟩ : ∃ y_ : List Int, y_ = (x0_2.set ((l1.length : Int) : Int).toNat ((IntKind.u64.wrap ((IntKind.u64.wrap ((IntKind.u64.wrap (rd x0_2 (l1.length : Int))) - x10_2)) - x9_2)) % 4294967296)) := ⟨_, rfl⟩
              replace H : (if ((IntKind.u64.wrap ((IntKind.u64.wrap ((IntKind.u64.wrap (rd x0_2 (l1.length : Int))) - x10_2)) - x9_2)) / 9223372036854775808) = 0 then (some ((x7_9) % 4294967296, y225)) else (nat_step.l2 k2 y225 l1 (l1.length : Int) x7_9 0 (l1.length : Int) 0)) = some (r1, r2) := by first | (rw [hy225]; with_reducible exact H) | (have H := (Option.bind_some _ _).symm.trans H; first | (rw [hy225]; with_reducible exact H) | with_reducible exact H) | (rw [hy225]; exact H) | exact H
              have Ny225 := zA hy225
              clear hy225
              by_cases c35 : ((IntKind.u64.wrap ((IntKind.u64.wrap ((IntKind.u64.wrap (rd x0_2 (l1.length : Int))) - x10_2)) - x9_2)) / 9223372036854775808) = 0
              ·
               rw [if_pos c35] at H
               have c35b0 : (((IntKind.u64.wrap ((IntKind.u64.wrap ((IntKind.u64.wrap (rd x0_2 (l1.length : Int))) - x10_2)) - x9_2)) / 9223372036854775808) == 0) = true := beq_iff_eq.mpr c35
               have c35b1 : (((IntKind.u64.wrap ((IntKind.u64.wrap ((IntKind.u64.wrap (rd x0_2 (l1.length : Int))) - x10_2)) - x9_2)) / 9223372036854775808) != 0) = false := bne_eq_false_iff_eq.mpr c35
               clear c35
               simp only [Option.some.injEq, Prod.mk.injEq] at H
               obtain ⟨rfl, rfl⟩ := H
               have p224 : 0 ≤ ((l1.length : Int) : Int) := of_decide_eq_true (by assumption)
               have q224 : (l1.length : Int) < (x0_2.length : Int) := of_decide_eq_true (by assumption)
               obtain ⟨ad224, e224, hx224_0⟩ := Kd.at_int (Kd.U_reads' HO_0.out).2.2 (l1.length : Int) p224 q224
               obtain rfl : ad213 = ad224 := (by injection e224)
               (try simp only [Go.IntWalk.toNatUp] at hx224_0)
               (try simp only [hl0_2] at p224)
               (try simp only [hl0_2] at q224)
               (try simp only [hl0_2] at hx224_0)
               replace p224 := eq_true p224
               replace q224 := eq_true q224
               have p34 : 0 ≤ ((l1.length : Int) : Int) := of_decide_eq_true (by assumption)
               have q34 : ((l1.length : Int) : Int) < ((x0_2.length : Int) : Int) := of_decide_eq_true (by assumption)
               have GB34 := zA (Kd.U_base HO_0.out)
               have HMgo34 := zA (show (P0_ ad213.block ∨ w.heap.size ≤ ad213.block) from (HO_0.out.1 _ rfl))
               (first | simp only [add_plain] at hx224_0 | skip)
               obtain ⟨hx34_0, hf34_0⟩ := Kd.U_celln 0 HO_0.out ((l1.length : Int) : Int) p34 q34
               (try simp only [Int.toNat_natCast] at hx34_0 hf34_0)
               replace p34 := eq_true p34
               replace q34 := eq_true q34
               have HP36 := Kd.U_putg HO_0.out ((l1.length : Int) : Int) (of_eq_true p34) (of_eq_true q34) ((IntKind.u64.wrap ((IntKind.u64.wrap ((IntKind.u64.wrap (rd x0_2 (l1.length : Int))) - x10_2)) - x9_2)) % 4294967296)
               go_wp2_with (first | ((with_reducible refine gate_store (t := 85) (p := 132) rfl ?_); (try (rw [drewN_self wr]; generalize hq_ : World.drewN wr _ = wr; have n0_ := zA (Kd.U_at hq_ HO_0.out); have n1_ := zA (kept_at hq_ HK.out); have n2_ := zA (below_at hq_ HB.out); clear hq_ HO_0 HK HB; have HO_0 := n0_; have HK := n1_; have HB := n2_; clear n0_ n1_ n2_; (try (have HP36 := Kd.U_putg HO_0.out ((l1.length : Int) : Int) (of_eq_true p34) (of_eq_true q34) ((IntKind.u64.wrap ((IntKind.u64.wrap ((IntKind.u64.wrap (rd x0_2 (l1.length : Int))) - x10_2)) - x9_2)) % 4294967296))))); (try (have hxn_ := Kd.U_celln 0 HO_0.out ((l1.length : Int) : Int) (of_eq_true p34) (of_eq_true q34); clear hx34_0 hf34_0; have hx34_0 := hxn_.1; have hf34_0 := hxn_.2; clear hxn_; (try simp only [Int.toNat_natCast] at hx34_0 hf34_0))); refine store_event (t := 85) (p := 132) (v := ?vo_w37) (w1 := (wr.setCell (ad213.add ((l1.length : Int) : Int).toNat) (.int .u32 ((IntKind.u64.wrap ((IntKind.u64.wrap ((IntKind.u64.wrap (rd x0_2 (l1.length : Int))) - x10_2)) - x9_2)) % 4294967296)))) ?hg ?ho ?hn ?hr ?_; (case ho => rfl); (case hg => rfl); (case hn => rfl); (case hr => first | (go_simp; done) | (go_simp; rfl)); intro w37 hw; have hg : wr.grownBy w37 (some ad213.block) := (by rw [hw]; exact HP36.2); have hp_ : Kd.U ad213 cap_ pre_ post_ (Kd.int .u32) 85 w37 w0.heap.size (fun k_ => (P0_ k_ ∨ w.heap.size ≤ k_)) (.slice (some ad213) x0_2.length co11) y225 := (by rw [hw, Ny225.out]; exact HP36.1); clear HP36; replace HB := zA ((by rw [hw]; exact below_setU (HB.out) GB34.out : Below w0.heap.size w0 w37)); replace HK := zA (Kept.of_grown (S := (fun k_ => P0_ k_)) hg (by exact zP HK) (fun k_ e_ => (HO_0.out.1 k_ e_))); replace HO_0 := zA (hp_); clear hg hw hp_))
               repeat (go_quiet (first | ((with_reducible refine gate_store (t := 85) (p := 132) rfl ?_); (try (rw [drewN_self wr]; generalize hq_ : World.drewN wr _ = wr; have n0_ := zA (Kd.U_at hq_ HO_0.out); have n1_ := zA (kept_at hq_ HK.out); have n2_ := zA (below_at hq_ HB.out); clear hq_ HO_0 HK HB; have HO_0 := n0_; have HK := n1_; have HB := n2_; clear n0_ n1_ n2_; (try (have HP36 := Kd.U_putg HO_0.out ((l1.length : Int) : Int) (of_eq_true p34) (of_eq_true q34) ((IntKind.u64.wrap ((IntKind.u64.wrap ((IntKind.u64.wrap (rd x0_2 (l1.length : Int))) - x10_2)) - x9_2)) % 4294967296))))); (try (have hxn_ := Kd.U_celln 0 HO_0.out ((l1.length : Int) : Int) (of_eq_true p34) (of_eq_true q34); clear hx34_0 hf34_0; have hx34_0 := hxn_.1; have hf34_0 := hxn_.2; clear hxn_; (try simp only [Int.toNat_natCast] at hx34_0 hf34_0))); refine store_event (t := 85) (p := 132) (v := ?vo_w37) (w1 := (wr.setCell (ad213.add ((l1.length : Int) : Int).toNat) (.int .u32 ((IntKind.u64.wrap ((IntKind.u64.wrap ((IntKind.u64.wrap (rd x0_2 (l1.length : Int))) - x10_2)) - x9_2)) % 4294967296)))) ?hg ?ho ?hn ?hr ?_; (case ho => rfl); (case hg => rfl); (case hn => rfl); (case hr => first | (go_simp; done) | (go_simp; rfl)); intro w37 hw; have hg : wr.grownBy w37 (some ad213.block) := (by rw [hw]; exact HP36.2); have hp_ : Kd.U ad213 cap_ pre_ post_ (Kd.int .u32) 85 w37 w0.heap.size (fun k_ => (P0_ k_ ∨ w.heap.size ≤ k_)) (.slice (some ad213) x0_2.length co11) y225 := (by rw [hw, Ny225.out]; exact HP36.1); clear HP36; replace HB := zA ((by rw [hw]; exact below_setU (HB.out) GB34.out : Below w0.heap.size w0 w37)); replace HK := zA (Kept.of_grown (S := (fun k_ => P0_ k_)) hg (by exact zP HK) (fun k_ e_ => (HO_0.out.1 k_ e_))); replace HO_0 := zA (hp_); clear hg hw hp_)); try go_wp2_with (first | ((with_reducible refine gate_store (t := 85) (p := 132) rfl ?_); (try (rw [drewN_self wr]; generalize hq_ : World.drewN wr _ = wr; have n0_ := zA (Kd.U_at hq_ HO_0.out); have n1_ := zA (kept_at hq_ HK.out); have n2_ := zA (below_at hq_ HB.out); clear hq_ HO_0 HK HB; have HO_0 := n0_; have HK := n1_; have HB := n2_; clear n0_ n1_ n2_; (try (have HP36 := Kd.U_putg HO_0.out ((l1.length : Int) : Int) (of_eq_true p34) (of_eq_true q34) ((IntKind.u64.wrap ((IntKind.u64.wrap ((IntKind.u64.wrap (rd x0_2 (l1.length : Int))) - x10_2)) - x9_2)) % 4294967296))))); (try (have hxn_ := Kd.U_celln 0 HO_0.out ((l1.length : Int) : Int) (of_eq_true p34) (of_eq_true q34); clear hx34_0 hf34_0; have hx34_0 := hxn_.1; have hf34_0 := hxn_.2; clear hxn_; (try simp only [Int.toNat_natCast] at hx34_0 hf34_0))); refine store_event (t := 85) (p := 132) (v := ?vo_w37) (w1 := (wr.setCell (ad213.add ((l1.length : Int) : Int).toNat) (.int .u32 ((IntKind.u64.wrap ((IntKind.u64.wrap ((IntKind.u64.wrap (rd x0_2 (l1.length : Int))) - x10_2)) - x9_2)) % 4294967296)))) ?hg ?ho ?hn ?hr ?_; (case ho => rfl); (case hg => rfl); (case hn => rfl); (case hr => first | (go_simp; done) | (go_simp; rfl)); intro w37 hw; have hg : wr.grownBy w37 (some ad213.block) := (by rw [hw]; exact HP36.2); have hp_ : Kd.U ad213 cap_ pre_ post_ (Kd.int .u32) 85 w37 w0.heap.size (fun k_ => (P0_ k_ ∨ w.heap.size ≤ k_)) (.slice (some ad213) x0_2.length co11) y225 := (by rw [hw, Ny225.out]; exact HP36.1); clear HP36; replace HB := zA ((by rw [hw]; exact below_setU (HB.out) GB34.out : Below w0.heap.size w0 w37)); replace HK := zA (Kept.of_grown (S := (fun k_ => P0_ k_)) hg (by exact zP HK) (fun k_ e_ => (HO_0.out.1 k_ e_))); replace HO_0 := zA (hp_); clear hg hw hp_)))
               go_ret
               exact ⟨by first | rfl | (simp [errW_none, errW_some] <;> rfl) | (simp only [← hji5]; first | rfl | (simp [errW_none, errW_some] <;> rfl)) | (simp [*, errW_none, errW_some] <;> rfl), (by first | exact (by (with_reducible repeat (first | apply Kd.U_alloc | apply Kd.U_drewN | apply Kd.U_drew)); exact HO_0.out) | (simp only [hl0_2]; exact (by (with_reducible repeat (first | apply Kd.U_alloc | apply Kd.U_drewN | apply Kd.U_drew)); exact HO_0.out))), by exact zB HB, by exact zP HK⟩
              ·
               rw [if_neg c35] at H
               have c35b0 : (((IntKind.u64.wrap ((IntKind.u64.wrap ((IntKind.u64.wrap (rd x0_2 (l1.length : Int))) - x10_2)) - x9_2)) / 9223372036854775808) == 0) = false := beq_eq_false_iff_ne.mpr c35
               have c35b1 : (((IntKind.u64.wrap ((IntKind.u64.wrap ((IntKind.u64.wrap (rd x0_2 (l1.length : Int))) - x10_2)) - x9_2)) / 9223372036854775808) != 0) = true := bne_iff_ne.mpr c35
               have H' := zA H
               clear H
               have p224 : 0 ≤ ((l1.length : Int) : Int) := of_decide_eq_true (by assumption)
               have q224 : (l1.length : Int) < (x0_2.length : Int) := of_decide_eq_true (by assumption)
               obtain ⟨ad224, e224, hx224_0⟩ := Kd.at_int (Kd.U_reads' HO_0.out).2.2 (l1.length : Int) p224 q224
               obtain rfl : ad213 = ad224 := (by injection e224)
               (try simp only [Go.IntWalk.toNatUp] at hx224_0)
               (try simp only [hl0_2] at p224)
               (try simp only [hl0_2] at q224)
               (try simp only [hl0_2] at hx224_0)
               replace p224 := eq_true p224
               replace q224 := eq_true q224
               have p34 : 0 ≤ ((l1.length : Int) : Int) := of_decide_eq_true (by assumption)
               have q34 : ((l1.length : Int) : Int) < ((x0_2.length : Int) : Int) := of_decide_eq_true (by assumption)
               have GB34 := zA (Kd.U_base HO_0.out)
               have HMgo34 := zA (show (P0_ ad213.block ∨ w.heap.size ≤ ad213.block) from (HO_0.out.1 _ rfl))
               (first | simp only [add_plain] at hx224_0 | skip)
               obtain ⟨hx34_0, hf34_0⟩ := Kd.U_celln 0 HO_0.out ((l1.length : Int) : Int) p34 q34
               (try simp only [Int.toNat_natCast] at hx34_0 hf34_0)
               replace p34 := eq_true p34
               replace q34 := eq_true q34
               have HP38 := Kd.U_putg HO_0.out ((l1.length : Int) : Int) (of_eq_true p34) (of_eq_true q34) ((IntKind.u64.wrap ((IntKind.u64.wrap ((IntKind.u64.wrap (rd x0_2 (l1.length : Int))) - x10_2)) - x9_2)) % 4294967296)
               go_wp2_with (first | ((with_reducible refine gate_store (t := 85) (p := 132) rfl ?_); (try (rw [drewN_self wr]; generalize hq_ : World.drewN wr _ = wr; have n0_ := zA (Kd.U_at hq_ HO_0.out); have n1_ := zA (kept_at hq_ HK.out); have n2_ := zA (below_at hq_ HB.out); clear hq_ HO_0 HK HB; have HO_0 := n0_; have HK := n1_; have HB := n2_; clear n0_ n1_ n2_; (try (have HP38 := Kd.U_putg HO_0.out ((l1.length : Int) : Int) (of_eq_true p34) (of_eq_true q34) ((IntKind.u64.wrap ((IntKind.u64.wrap ((IntKind.u64.wrap (rd x0_2 (l1.length : Int))) - x10_2)) - x9_2)) % 4294967296))))); (try (have hxn_ := Kd.U_celln 0 HO_0.out ((l1.length : Int) : Int) (of_eq_true p34) (of_eq_true q34); clear hx34_0 hf34_0; have hx34_0 := hxn_.1; have hf34_0 := hxn_.2; clear hxn_; (try simp only [Int.toNat_natCast] at hx34_0 hf34_0))); refine store_event (t := 85) (p := 132) (v := ?vo_w39) (w1 := (wr.setCell (ad213.add ((l1.length : Int) : Int).toNat) (.int .u32 ((IntKind.u64.wrap ((IntKind.u64.wrap ((IntKind.u64.wrap (rd x0_2 (l1.length : Int))) - x10_2)) - x9_2)) % 4294967296)))) ?hg ?ho ?hn ?hr ?_; (case ho => rfl); (case hg => rfl); (case hn => rfl); (case hr => first | (go_simp; done) | (go_simp; rfl)); intro w39 hw; have hg : wr.grownBy w39 (some ad213.block) := (by rw [hw]; exact HP38.2); have hp_ : Kd.U ad213 cap_ pre_ post_ (Kd.int .u32) 85 w39 w0.heap.size (fun k_ => (P0_ k_ ∨ w.heap.size ≤ k_)) (.slice (some ad213) x0_2.length co11) y225 := (by rw [hw, Ny225.out]; exact HP38.1); clear HP38; replace HB := zA ((by rw [hw]; exact below_setU (HB.out) GB34.out : Below w0.heap.size w0 w39)); replace HK := zA (Kept.of_grown (S := (fun k_ => P0_ k_)) hg (by exact zP HK) (fun k_ e_ => (HO_0.out.1 k_ e_))); replace HO_0 := zA (hp_); clear hg hw hp_))
               repeat (go_quiet (first | ((with_reducible refine gate_store (t := 85) (p := 132) rfl ?_); (try (rw [drewN_self wr]; generalize hq_ : World.drewN wr _ = wr; have n0_ := zA (Kd.U_at hq_ HO_0.out); have n1_ := zA (kept_at hq_ HK.out); have n2_ := zA (below_at hq_ HB.out); clear hq_ HO_0 HK HB; have HO_0 := n0_; have HK := n1_; have HB := n2_; clear n0_ n1_ n2_; (try (have HP38 := Kd.U_putg HO_0.out ((l1.length : Int) : Int) (of_eq_true p34) (of_eq_true q34) ((IntKind.u64.wrap ((IntKind.u64.wrap ((IntKind.u64.wrap (rd x0_2 (l1.length : Int))) - x10_2)) - x9_2)) % 4294967296))))); (try (have hxn_ := Kd.U_celln 0 HO_0.out ((l1.length : Int) : Int) (of_eq_true p34) (of_eq_true q34); clear hx34_0 hf34_0; have hx34_0 := hxn_.1; have hf34_0 := hxn_.2; clear hxn_; (try simp only [Int.toNat_natCast] at hx34_0 hf34_0))); refine store_event (t := 85) (p := 132) (v := ?vo_w39) (w1 := (wr.setCell (ad213.add ((l1.length : Int) : Int).toNat) (.int .u32 ((IntKind.u64.wrap ((IntKind.u64.wrap ((IntKind.u64.wrap (rd x0_2 (l1.length : Int))) - x10_2)) - x9_2)) % 4294967296)))) ?hg ?ho ?hn ?hr ?_; (case ho => rfl); (case hg => rfl); (case hn => rfl); (case hr => first | (go_simp; done) | (go_simp; rfl)); intro w39 hw; have hg : wr.grownBy w39 (some ad213.block) := (by rw [hw]; exact HP38.2); have hp_ : Kd.U ad213 cap_ pre_ post_ (Kd.int .u32) 85 w39 w0.heap.size (fun k_ => (P0_ k_ ∨ w.heap.size ≤ k_)) (.slice (some ad213) x0_2.length co11) y225 := (by rw [hw, Ny225.out]; exact HP38.1); clear HP38; replace HB := zA ((by rw [hw]; exact below_setU (HB.out) GB34.out : Below w0.heap.size w0 w39)); replace HK := zA (Kept.of_grown (S := (fun k_ => P0_ k_)) hg (by exact zP HK) (fun k_ e_ => (HO_0.out.1 k_ e_))); replace HO_0 := zA (hp_); clear hg hw hp_)); try go_wp2_with (first | ((with_reducible refine gate_store (t := 85) (p := 132) rfl ?_); (try (rw [drewN_self wr]; generalize hq_ : World.drewN wr _ = wr; have n0_ := zA (Kd.U_at hq_ HO_0.out); have n1_ := zA (kept_at hq_ HK.out); have n2_ := zA (below_at hq_ HB.out); clear hq_ HO_0 HK HB; have HO_0 := n0_; have HK := n1_; have HB := n2_; clear n0_ n1_ n2_; (try (have HP38 := Kd.U_putg HO_0.out ((l1.length : Int) : Int) (of_eq_true p34) (of_eq_true q34) ((IntKind.u64.wrap ((IntKind.u64.wrap ((IntKind.u64.wrap (rd x0_2 (l1.length : Int))) - x10_2)) - x9_2)) % 4294967296))))); (try (have hxn_ := Kd.U_celln 0 HO_0.out ((l1.length : Int) : Int) (of_eq_true p34) (of_eq_true q34); clear hx34_0 hf34_0; have hx34_0 := hxn_.1; have hf34_0 := hxn_.2; clear hxn_; (try simp only [Int.toNat_natCast] at hx34_0 hf34_0))); refine store_event (t := 85) (p := 132) (v := ?vo_w39) (w1 := (wr.setCell (ad213.add ((l1.length : Int) : Int).toNat) (.int .u32 ((IntKind.u64.wrap ((IntKind.u64.wrap ((IntKind.u64.wrap (rd x0_2 (l1.length : Int))) - x10_2)) - x9_2)) % 4294967296)))) ?hg ?ho ?hn ?hr ?_; (case ho => rfl); (case hg => rfl); (case hn => rfl); (case hr => first | (go_simp; done) | (go_simp; rfl)); intro w39 hw; have hg : wr.grownBy w39 (some ad213.block) := (by rw [hw]; exact HP38.2); have hp_ : Kd.U ad213 cap_ pre_ post_ (Kd.int .u32) 85 w39 w0.heap.size (fun k_ => (P0_ k_ ∨ w.heap.size ≤ k_)) (.slice (some ad213) x0_2.length co11) y225 := (by rw [hw, Ny225.out]; exact HP38.1); clear HP38; replace HB := zA ((by rw [hw]; exact below_setU (HB.out) GB34.out : Below w0.heap.size w0 w39)); replace HK := zA (Kept.of_grown (S := (fun k_ => P0_ k_)) hg (by exact zP HK) (fun k_ e_ => (HO_0.out.1 k_ e_))); replace HO_0 := zA (hp_); clear hg hw hp_)))
               go_loopg [10, 140] k2 (fun kq v10 v140 w' => ∃ (x0_3 : List Int) (x10_3 : Int) (x140_3 : Int), v10 = .int .u64 x10_3 ∧ v140 = .int .i64 x140_3 ∧ Aside0 (nat_step.l2 kq x0_3 l1 (l1.length : Int) x7_9 x10_3 (l1.length : Int) x140_3 = some (r1, r2)) ∧ Aside0 (kq ≤ k2) ∧ Aside0 (Kd.U ad213 cap_ pre_ post_ (Kd.int .u32) 85 w' w0.heap.size (fun k_ => (P0_ k_ ∨ w.heap.size ≤ k_)) (.slice (some ad213) x0_2.length co11) x0_3) ∧ Aside0 (Kept w w' (fun k_ => P0_ k_)) ∧ Aside0 (Below w0.heap.size w0 w'))
               case atStart => exact ⟨(y225), (0), (0), (by first | rfl | (simp; done) | (simp [*]; done)), (by first | rfl | (simp; done) | (simp [*]; done)), H', ⟨Nat.le_refl _⟩, ⟨by (try simp only [hl0_2]); (with_reducible repeat (first | apply Kd.U_alloc | apply Kd.U_drewN | apply Kd.U_drew)); exact HO_0.out⟩, ⟨by exact zP HK⟩, ⟨by exact zB HB⟩⟩
               case round =>
                clear H'
                try clear c1
                try clear c2
                try clear p2
                try clear q2
                try clear hx2
                try clear hf2
                try clear c3
                try clear c3b0
                try clear c3b1
                try clear p3
                try clear q3
                try clear hx3
                try clear hf3
                try clear c4
                try clear c4b0
                try clear c4b1
                try clear c6
                try clear c6b0
                try clear p6
                try clear c7
                try clear c7b0
                try clear c8
                try clear c8b0
                try clear c9
                try clear c9b0
                try clear c9b1
                try clear c11
                try clear c12
                try clear c12b0
                try clear c13
                try clear c13b0
                try clear c15
                try clear c15b0
                try clear c16
                try clear c16b0
                try clear c18
                try clear c18b0
                try clear c19
                try clear c19b0
                try clear c20
                try clear c20b0
                try clear c21
                try clear c21b0
                try clear p21
                try clear q21
                try clear hx21
                try clear p22
                try clear q22
                try clear hx22
                try clear c23
                try clear c23b0
                try clear c24
                try clear c24b0
                try clear c25
                try clear c25b0
                try clear c26
                try clear c26b0
                try clear c27
                try clear c27b0
                try clear c28
                try clear c28b0
                try clear p29
                try clear q29
                try clear hx29
                try clear hf29
                try clear c32
                try clear c32b0
                try clear c32b1
                try clear c33
                try clear c33b0
                try clear c33b1
                try clear p34
                try clear q34
                try clear hx34
                try clear hf34
                try clear c35
                try clear c35b0
                try clear c35b1
                try clear hx213_0
                try clear hx214_0
                try clear hx215_0
                try clear hx216_0
                try clear hx217_0
                try clear hx218_0
                try clear hx219_0
                try clear hx220_0
                try clear hx221_0
                try clear hx222_0
                try clear hx224_0
                try clear hx29_0
                try clear hx34_0
                try clear p2
                try clear p21
                try clear p213
                try clear p214
                try clear p215
                try clear p216
                try clear p217
                try clear p218
                try clear p219
                try clear p22
                try clear p220
                try clear p221
                try clear p222
                try clear p224
                try clear p29
                try clear p34
                try clear p6
                try clear q2
                try clear q21
                try clear q213
                try clear q214
                try clear q215
                try clear q216
                try clear q217
                try clear q218
                try clear q219
                try clear q22
                try clear q220
                try clear q221
                try clear q222
                try clear q224
                try clear q29
                try clear q34
                obtain ⟨x0_3, x10_3, x140_3, rfl, rfl, HA, HK3, HO_0, HK, HB⟩ := hrel
                have hl0_3 := (Kd.U_reads' HO_0.out).1
                rw [hl0_3] at HO_0
                (try simp only [hl0_3])
                cases gk with
                | zero => exact absurd HA.out (by simp [nat_step.l2])
                | succ k3 =>
                 have H := HA.out
                 clear HA
                 simp only [nat_step.l2] at H
                 by_cases c40 : x140_3 < (l1.length : Int)
                 ·
                  rw [if_pos c40] at H
                  have c40b0 : decide (x140_3 < (l1.length : Int)) = true := decide_eq_true c40
                  clear c40
                  by_cases c41 : 0 ≤ x140_3
                  ·
                   rw [if_pos c41] at H
                   have c41b0 : decide (0 ≤ x140_3) = true := decide_eq_true c41
                   clear c41
                   by_cases c42 : x140_3 < (x0_3.length : Int)
                   ·
                    rw [if_pos c42] at H
                    have c42b0 : decide (x140_3 < (x0_3.length : Int)) = true := decide_eq_true c42
                    clear c42
                    by_cases c43 : x140_3 < (l1.length : Int)
                    ·
                     rw [if_pos c43] at H
                     have c43b0 : decide (x140_3 < (l1.length : Int)) = true := decide_eq_true c43
                     clear c43
                     obtain ⟨y228, hy228⟩ : ∃ y_ : List Int, y_ = (x0_3.set (x140_3 : Int).toNat ((IntKind.u64.wrap ((IntKind.u64.wrap ((IntKind.u64.wrap (rd x0_3 x140_3)) + (IntKind.u64.wrap (rd l1 x140_3)))) + x10_3)) % 4294967296)) := ⟨_, rfl⟩
                     replace H : (nat_step.l2 k3 y228 l1 (l1.length : Int) x7_9 ((IntKind.u64.wrap ((IntKind.u64.wrap ((IntKind.u64.wrap (rd x0_3 x140_3)) + (IntKind.u64.wrap (rd l1 x140_3)))) + x10_3)) / 4294967296) (l1.length : Int) (wrap64 (x140_3 + 1))) = some (r1, r2) := by first | (rw [hy228]; with_reducible exact H) | (have H := (Option.bind_some _ _).symm.trans H; first | (rw [hy228]; with_reducible exact H) | with_reducible exact H) | (rw [hy228]; exact H) | exact H
                     have Ny228 := zA hy228
                     clear hy228
                     have H' := zA H
                     clear H
                     have p226 : 0 ≤ (x140_3 : Int) := of_decide_eq_true (by assumption)
                     have q226 : x140_3 < (x0_3.length : Int) := of_decide_eq_true (by assumption)
                     obtain ⟨ad226, e226, hx226_0⟩ := Kd.at_int (Kd.U_reads' HO_0.out).2.2 x140_3 p226 q226
                     obtain rfl : ad213 = ad226 := (by injection e226)
                     (first | simp only [add_plain] at hx226_0 | simp only [add_at] at hx226_0 | simp only [Addr.add, Nat.zero_add] at hx226_0 | skip)
                     replace p226 := eq_true p226
                     replace q226 := eq_true q226
                     have p227 : 0 ≤ (x140_3 : Int) := of_decide_eq_true (by assumption)
                     have q227 : x140_3 < (l1.length : Int) := of_decide_eq_true (by assumption)
                     obtain ⟨ad227, e227, hx227_0⟩ := Kd.at_int (Kd.C_kept_now HR1.out HK.out) x140_3 p227 q227
                     obtain rfl : ad215 = ad227 := (by injection e227)
                     replace p227 := eq_true p227
                     replace q227 := eq_true q227
                     have p44 : 0 ≤ (x140_3 : Int) := of_decide_eq_true (by assumption)
                     have q44 : (x140_3 : Int) < ((x0_3.length : Int) : Int) := of_decide_eq_true (by assumption)
                     obtain ⟨hx44_0, hf44_0⟩ := Kd.U_celln 0 HO_0.out (x140_3 : Int) p44 q44
                     replace p44 := eq_true p44
                     replace q44 := eq_true q44
                     have HP45 := Kd.U_putg HO_0.out (x140_3 : Int) (of_eq_true p44) (of_eq_true q44) ((IntKind.u64.wrap ((IntKind.u64.wrap ((IntKind.u64.wrap (rd x0_3 x140_3)) + (IntKind.u64.wrap (rd l1 x140_3)))) + x10_3)) % 4294967296)
                     go_wp2_with (first | ((with_reducible refine gate_store (t := 85) (p := 160) rfl ?_); (try (rw [drewN_self wr]; generalize hq_ : World.drewN wr _ = wr; have n0_ := zA (Kd.U_at hq_ HO_0.out); have n1_ := zA (kept_at hq_ HK.out); have n2_ := zA (below_at hq_ HB.out); clear hq_ HO_0 HK HB; have HO_0 := n0_; have HK := n1_; have HB := n2_; clear n0_ n1_ n2_; (try (have HP45 := Kd.U_putg HO_0.out (x140_3 : Int) (of_eq_true p44) (of_eq_true q44) ((IntKind.u64.wrap ((IntKind.u64.wrap ((IntKind.u64.wrap (rd x0_3 x140_3)) + (IntKind.u64.wrap (rd l1 x140_3)))) + x10_3)) % 4294967296))))); (try (have hxn_ := Kd.U_celln 0 HO_0.out (x140_3 : Int) (of_eq_true p44) (of_eq_true q44); clear hx44_0 hf44_0; have hx44_0 := hxn_.1; have hf44_0 := hxn_.2; clear hxn_; (try simp only [Int.toNat_natCast] at hx44_0 hf44_0))); refine store_event (t := 85) (p := 160) (v := ?vo_w46) (w1 := (wr.setCell (ad213.add (x140_3 : Int).toNat) (.int .u32 ((IntKind.u64.wrap ((IntKind.u64.wrap ((IntKind.u64.wrap (rd x0_3 x140_3)) + (IntKind.u64.wrap (rd l1 x140_3)))) + x10_3)) % 4294967296)))) ?hg ?ho ?hn ?hr ?_; (case ho => rfl); (case hg => rfl); (case hn => rfl); (case hr => first | (go_simp; done) | (go_simp; rfl)); intro w46 hw; have hg : wr.grownBy w46 (some ad213.block) := (by rw [hw]; exact HP45.2); have hp_ : Kd.U ad213 cap_ pre_ post_ (Kd.int .u32) 85 w46 w0.heap.size (fun k_ => (P0_ k_ ∨ w.heap.size ≤ k_)) (.slice (some ad213) x0_3.length co11) y228 := (by rw [hw, Ny228.out]; exact HP45.1); clear HP45; replace HB := zA ((by rw [hw]; exact below_setU (HB.out) GB34.out : Below w0.heap.size w0 w46)); replace HK := zA (Kept.of_grown (S := (fun k_ => P0_ k_)) hg (by exact zP HK) (fun k_ e_ => (HO_0.out.1 k_ e_))); replace HO_0 := zA (hp_); clear hg hw hp_))
                     repeat (go_quiet (first | ((with_reducible refine gate_store (t := 85) (p := 160) rfl ?_); (try (rw [drewN_self wr]; generalize hq_ : World.drewN wr _ = wr; have n0_ := zA (Kd.U_at hq_ HO_0.out); have n1_ := zA (kept_at hq_ HK.out); have n2_ := zA (below_at hq_ HB.out); clear hq_ HO_0 HK HB; have HO_0 := n0_; have HK := n1_; have HB := n2_; clear n0_ n1_ n2_; (try (have HP45 := Kd.U_putg HO_0.out (x140_3 : Int) (of_eq_true p44) (of_eq_true q44) ((IntKind.u64.wrap ((IntKind.u64.wrap ((IntKind.u64.wrap (rd x0_3 x140_3)) + (IntKind.u64.wrap (rd l1 x140_3)))) + x10_3)) % 4294967296))))); (try (have hxn_ := Kd.U_celln 0 HO_0.out (x140_3 : Int) (of_eq_true p44) (of_eq_true q44); clear hx44_0 hf44_0; have hx44_0 := hxn_.1; have hf44_0 := hxn_.2; clear hxn_; (try simp only [Int.toNat_natCast] at hx44_0 hf44_0))); refine store_event (t := 85) (p := 160) (v := ?vo_w46) (w1 := (wr.setCell (ad213.add (x140_3 : Int).toNat) (.int .u32 ((IntKind.u64.wrap ((IntKind.u64.wrap ((IntKind.u64.wrap (rd x0_3 x140_3)) + (IntKind.u64.wrap (rd l1 x140_3)))) + x10_3)) % 4294967296)))) ?hg ?ho ?hn ?hr ?_; (case ho => rfl); (case hg => rfl); (case hn => rfl); (case hr => first | (go_simp; done) | (go_simp; rfl)); intro w46 hw; have hg : wr.grownBy w46 (some ad213.block) := (by rw [hw]; exact HP45.2); have hp_ : Kd.U ad213 cap_ pre_ post_ (Kd.int .u32) 85 w46 w0.heap.size (fun k_ => (P0_ k_ ∨ w.heap.size ≤ k_)) (.slice (some ad213) x0_3.length co11) y228 := (by rw [hw, Ny228.out]; exact HP45.1); clear HP45; replace HB := zA ((by rw [hw]; exact below_setU (HB.out) GB34.out : Below w0.heap.size w0 w46)); replace HK := zA (Kept.of_grown (S := (fun k_ => P0_ k_)) hg (by exact zP HK) (fun k_ e_ => (HO_0.out.1 k_ e_))); replace HO_0 := zA (hp_); clear hg hw hp_)); try go_wp2_with (first | ((with_reducible refine gate_store (t := 85) (p := 160) rfl ?_); (try (rw [drewN_self wr]; generalize hq_ : World.drewN wr _ = wr; have n0_ := zA (Kd.U_at hq_ HO_0.out); have n1_ := zA (kept_at hq_ HK.out); have n2_ := zA (below_at hq_ HB.out); clear hq_ HO_0 HK HB; have HO_0 := n0_; have HK := n1_; have HB := n2_; clear n0_ n1_ n2_; (try (have HP45 := Kd.U_putg HO_0.out (x140_3 : Int) (of_eq_true p44) (of_eq_true q44) ((IntKind.u64.wrap ((IntKind.u64.wrap ((IntKind.u64.wrap (rd x0_3 x140_3)) + (IntKind.u64.wrap (rd l1 x140_3)))) + x10_3)) % 4294967296))))); (try (have hxn_ := Kd.U_celln 0 HO_0.out (x140_3 : Int) (of_eq_true p44) (of_eq_true q44); clear hx44_0 hf44_0; have hx44_0 := hxn_.1; have hf44_0 := hxn_.2; clear hxn_; (try simp only [Int.toNat_natCast] at hx44_0 hf44_0))); refine store_event (t := 85) (p := 160) (v := ?vo_w46) (w1 := (wr.setCell (ad213.add (x140_3 : Int).toNat) (.int .u32 ((IntKind.u64.wrap ((IntKind.u64.wrap ((IntKind.u64.wrap (rd x0_3 x140_3)) + (IntKind.u64.wrap (rd l1 x140_3)))) + x10_3)) % 4294967296)))) ?hg ?ho ?hn ?hr ?_; (case ho => rfl); (case hg => rfl); (case hn => rfl); (case hr => first | (go_simp; done) | (go_simp; rfl)); intro w46 hw; have hg : wr.grownBy w46 (some ad213.block) := (by rw [hw]; exact HP45.2); have hp_ : Kd.U ad213 cap_ pre_ post_ (Kd.int .u32) 85 w46 w0.heap.size (fun k_ => (P0_ k_ ∨ w.heap.size ≤ k_)) (.slice (some ad213) x0_3.length co11) y228 := (by rw [hw, Ny228.out]; exact HP45.1); clear HP45; replace HB := zA ((by rw [hw]; exact below_setU (HB.out) GB34.out : Below w0.heap.size w0 w46)); replace HK := zA (Kept.of_grown (S := (fun k_ => P0_ k_)) hg (by exact zP HK) (fun k_ e_ => (HO_0.out.1 k_ e_))); replace HO_0 := zA (hp_); clear hg hw hp_)))
                     (try simp only [← hl0_3])
                     (try simp only [← add_plain ad213.block x86_2.toNat])
                     (try simp only [← add_plain ad213.block x86_2.toNat])
                     go_roundg k3
                     case measure => have := HJ9.out; have := HK2.out; have := HK3.out; omega
                     case rel => exact ⟨(y228), ((IntKind.u64.wrap ((IntKind.u64.wrap ((IntKind.u64.wrap (rd x0_3 x140_3)) + (IntKind.u64.wrap (rd l1 x140_3)))) + x10_3)) / 4294967296), (wrap64 (x140_3 + 1)), (by first | rfl | (simp; done) | (simp [*]; done)), (by first | rfl | (simp; done) | (simp [*]; done)), H', ⟨by have := HJ9.out; have := HK2.out; have := HK3.out; omega⟩, ⟨by (try simp only [hl0_2]); (try simp only [hl0_3]); (with_reducible repeat (first | apply Kd.U_alloc | apply Kd.U_drewN | apply Kd.U_drew)); exact HO_0.out⟩, ⟨by exact zP HK⟩, ⟨by exact zB HB⟩⟩
                    ·
                     rw [if_neg c43] at H
                     exact absurd H (by simp)
                   ·
                    rw [if_neg c42] at H
                    exact absurd H (by simp)
                  ·
                   rw [if_neg c41] at H
                   exact absurd H (by simp)
                 ·
                  rw [if_neg c40] at H
                  have c40b0 : decide (x140_3 < (l1.length : Int)) = false := decide_eq_false c40
                  clear c40
                  by_cases c47 : 0 ≤ (l1.length : Int)
                  ·
                   rw [if_pos c47] at H
                   have c47b0 : decide (0 ≤ (l1.length : Int)) = true := decide_eq_true c47
                   have c47b1 : decide (0 ≤ l1.length) = true := decide_eq_true (by omega)
                   clear c47
                   by_cases c48 : (l1.length : Int) < (x0_3.length : Int)
                   ·
                    rw [if_pos c48] at H
                    have c48b0 : decide ((l1.length : Int) < (x0_3.length : Int)) = true := decide_eq_true c48
                    have c48b1 : decide (l1.length < x0_3.length) = true := decide_eq_true (Int.ofNat_lt.mp c48)
                    clear c48
                    obtain ⟨y230, hy230⟩ : ∃ y_ : List Int, y_ = (x0_3.set ((l1.length : Int) : Int).toNat (((rd x0_3 (l1.length : Int)) + ((x10_3) % 4294967296)) % 4294967296)) := ⟨_, rfl⟩
                    replace H : (some ((IntKind.u64.wrap (x7_9 - 1)) % 4294967296, y230)) = some (r1, r2) := by first | (rw [hy230]; with_reducible exact H) | (have H := (Option.bind_some _ _).symm.trans H; first | (rw [hy230]; with_reducible exact H) | with_reducible exact H) | (rw [hy230]; exact H) | exact H
                    have Ny230 := zA hy230
                    clear hy230
                    simp only [Option.some.injEq, Prod.mk.injEq] at H
                    obtain ⟨rfl, rfl⟩ := H
                    have p229 : 0 ≤ ((l1.length : Int) : Int) := of_decide_eq_true (by assumption)
                    have q229 : (l1.length : Int) < (x0_3.length : Int) := of_decide_eq_true (by assumption)
                    obtain ⟨ad229, e229, hx229_0⟩ := Kd.at_int (Kd.U_reads' HO_0.out).2.2 (l1.length : Int) p229 q229
                    obtain rfl : ad213 = ad229 := (by injection e229)
                    (first | simp only [add_plain] at hx229_0 | simp only [add_at] at hx229_0 | simp only [Addr.add, Nat.zero_add] at hx229_0 | skip)
                    (try simp only [Go.IntWalk.toNatUp] at hx229_0)
                    (try simp only [hl0_2, hl0_3] at p229)
                    (try simp only [hl0_2, hl0_3] at q229)
                    (try simp only [hl0_2, hl0_3] at hx229_0)
                    replace p229 := eq_true p229
                    replace q229 := eq_true q229
                    have p49 : 0 ≤ ((l1.length : Int) : Int) := of_decide_eq_true (by assumption)
                    have q49 : ((l1.length : Int) : Int) < ((x0_3.length : Int) : Int) := of_decide_eq_true (by assumption)
                    obtain ⟨hx49_0, hf49_0⟩ := Kd.U_celln 0 HO_0.out ((l1.length : Int) : Int) p49 q49
                    (try simp only [Int.toNat_natCast] at hx49_0 hf49_0)
                    replace p49 := eq_true p49
                    replace q49 := eq_true q49
                    have HP50 := Kd.U_putg HO_0.out ((l1.length : Int) : Int) (of_eq_true p49) (of_eq_true q49) (((rd x0_3 (l1.length : Int)) + ((x10_3) % 4294967296)) % 4294967296)
                    go_wp2_with (first | ((with_reducible refine gate_store (t := 85) (p := 171) rfl ?_); (try (rw [drewN_self wr]; generalize hq_ : World.drewN wr _ = wr; have n0_ := zA (Kd.U_at hq_ HO_0.out); have n1_ := zA (kept_at hq_ HK.out); have n2_ := zA (below_at hq_ HB.out); clear hq_ HO_0 HK HB; have HO_0 := n0_; have HK := n1_; have HB := n2_; clear n0_ n1_ n2_; (try (have HP50 := Kd.U_putg HO_0.out ((l1.length : Int) : Int) (of_eq_true p49) (of_eq_true q49) (((rd x0_3 (l1.length : Int)) + ((x10_3) % 4294967296)) % 4294967296))))); (try (have hxn_ := Kd.U_celln 0 HO_0.out ((l1.length : Int) : Int) (of_eq_true p49) (of_eq_true q49); clear hx49_0 hf49_0; have hx49_0 := hxn_.1; have hf49_0 := hxn_.2; clear hxn_; (try simp only [Int.toNat_natCast] at hx49_0 hf49_0))); refine store_event (t := 85) (p := 171) (v := ?vo_w51) (w1 := (wr.setCell (ad213.add ((l1.length : Int) : Int).toNat) (.int .u32 (((rd x0_3 (l1.length : Int)) + ((x10_3) % 4294967296)) % 4294967296)))) ?hg ?ho ?hn ?hr ?_; (case ho => rfl); (case hg => rfl); (case hn => rfl); (case hr => first | (go_simp; done) | (go_simp; rfl)); intro w51 hw; have hg : wr.grownBy w51 (some ad213.block) := (by rw [hw]; exact HP50.2); have hp_ : Kd.U ad213 cap_ pre_ post_ (Kd.int .u32) 85 w51 w0.heap.size (fun k_ => (P0_ k_ ∨ w.heap.size ≤ k_)) (.slice (some ad213) x0_3.length co11) y230 := (by rw [hw, Ny230.out]; exact HP50.1); clear HP50; replace HB := zA ((by rw [hw]; exact below_setU (HB.out) GB34.out : Below w0.heap.size w0 w51)); replace HK := zA (Kept.of_grown (S := (fun k_ => P0_ k_)) hg (by exact zP HK) (fun k_ e_ => (HO_0.out.1 k_ e_))); replace HO_0 := zA (hp_); clear hg hw hp_))
                    repeat (go_quiet (first | ((with_reducible refine gate_store (t := 85) (p := 171) rfl ?_); (try (rw [drewN_self wr]; generalize hq_ : World.drewN wr _ = wr; have n0_ := zA (Kd.U_at hq_ HO_0.out); have n1_ := zA (kept_at hq_ HK.out); have n2_ := zA (below_at hq_ HB.out); clear hq_ HO_0 HK HB; have HO_0 := n0_; have HK := n1_; have HB := n2_; clear n0_ n1_ n2_; (try (have HP50 := Kd.U_putg HO_0.out ((l1.length : Int) : Int) (of_eq_true p49) (of_eq_true q49) (((rd x0_3 (l1.length : Int)) + ((x10_3) % 4294967296)) % 4294967296))))); (try (have hxn_ := Kd.U_celln 0 HO_0.out ((l1.length : Int) : Int) (of_eq_true p49) (of_eq_true q49); clear hx49_0 hf49_0; have hx49_0 := hxn_.1; have hf49_0 := hxn_.2; clear hxn_; (try simp only [Int.toNat_natCast] at hx49_0 hf49_0))); refine store_event (t := 85) (p := 171) (v := ?vo_w51) (w1 := (wr.setCell (ad213.add ((l1.length : Int) : Int).toNat) (.int .u32 (((rd x0_3 (l1.length : Int)) + ((x10_3) % 4294967296)) % 4294967296)))) ?hg ?ho ?hn ?hr ?_; (case ho => rfl); (case hg => rfl); (case hn => rfl); (case hr => first | (go_simp; done) | (go_simp; rfl)); intro w51 hw; have hg : wr.grownBy w51 (some ad213.block) := (by rw [hw]; exact HP50.2); have hp_ : Kd.U ad213 cap_ pre_ post_ (Kd.int .u32) 85 w51 w0.heap.size (fun k_ => (P0_ k_ ∨ w.heap.size ≤ k_)) (.slice (some ad213) x0_3.length co11) y230 := (by rw [hw, Ny230.out]; exact HP50.1); clear HP50; replace HB := zA ((by rw [hw]; exact below_setU (HB.out) GB34.out : Below w0.heap.size w0 w51)); replace HK := zA (Kept.of_grown (S := (fun k_ => P0_ k_)) hg (by exact zP HK) (fun k_ e_ => (HO_0.out.1 k_ e_))); replace HO_0 := zA (hp_); clear hg hw hp_)); try go_wp2_with (first | ((with_reducible refine gate_store (t := 85) (p := 171) rfl ?_); (try (rw [drewN_self wr]; generalize hq_ : World.drewN wr _ = wr; have n0_ := zA (Kd.U_at hq_ HO_0.out); have n1_ := zA (kept_at hq_ HK.out); have n2_ := zA (below_at hq_ HB.out); clear hq_ HO_0 HK HB; have HO_0 := n0_; have HK := n1_; have HB := n2_; clear n0_ n1_ n2_; (try (have HP50 := Kd.U_putg HO_0.out ((l1.length : Int) : Int) (of_eq_true p49) (of_eq_true q49) (((rd x0_3 (l1.length : Int)) + ((x10_3) % 4294967296)) % 4294967296))))); (try (have hxn_ := Kd.U_celln 0 HO_0.out ((l1.length : Int) : Int) (of_eq_true p49) (of_eq_true q49); clear hx49_0 hf49_0; have hx49_0 := hxn_.1; have hf49_0 := hxn_.2; clear hxn_; (try simp only [Int.toNat_natCast] at hx49_0 hf49_0))); refine store_event (t := 85) (p := 171) (v := ?vo_w51) (w1 := (wr.setCell (ad213.add ((l1.length : Int) : Int).toNat) (.int .u32 (((rd x0_3 (l1.length : Int)) + ((x10_3) % 4294967296)) % 4294967296)))) ?hg ?ho ?hn ?hr ?_; (case ho => rfl); (case hg => rfl); (case hn => rfl); (case hr => first | (go_simp; done) | (go_simp; rfl)); intro w51 hw; have hg : wr.grownBy w51 (some ad213.block) := (by rw [hw]; exact HP50.2); have hp_ : Kd.U ad213 cap_ pre_ post_ (Kd.int .u32) 85 w51 w0.heap.size (fun k_ => (P0_ k_ ∨ w.heap.size ≤ k_)) (.slice (some ad213) x0_3.length co11) y230 := (by rw [hw, Ny230.out]; exact HP50.1); clear HP50; replace HB := zA ((by rw [hw]; exact below_setU (HB.out) GB34.out : Below w0.heap.size w0 w51)); replace HK := zA (Kept.of_grown (S := (fun k_ => P0_ k_)) hg (by exact zP HK) (fun k_ e_ => (HO_0.out.1 k_ e_))); replace HO_0 := zA (hp_); clear hg hw hp_)))
                    go_ret
                    exact ⟨by first | rfl | (simp [errW_none, errW_some] <;> rfl) | (simp only [← hji5]; first | rfl | (simp [errW_none, errW_some] <;> rfl)) | (simp [*, errW_none, errW_some] <;> rfl), (by first | exact (by (with_reducible repeat (first | apply Kd.U_alloc | apply Kd.U_drewN | apply Kd.U_drew)); exact HO_0.out) | (simp only [hl0_2, hl0_3]; exact (by (with_reducible repeat (first | apply Kd.U_alloc | apply Kd.U_drewN | apply Kd.U_drew)); exact HO_0.out))), by exact zB HB, by exact zP HK⟩
                   ·
                    rw [if_neg c48] at H
                    exact absurd H (by simp)
                  ·
                   rw [if_neg c47] at H
                   exact absurd H (by simp)
             ·
              rw [if_neg c33] at H
              exact absurd H (by simp)
            ·
             rw [if_neg c32] at H
             exact absurd H (by simp)
     ·
      rw [if_neg c8] at H
      exact absurd H (by simp)
    ·
     rw [if_neg c7] at H
     exact absurd H (by simp)
   ·
    rw [if_neg c6] at H
    exact absurd H (by simp)
  ·
   rw [if_neg c4] at H
   exact absurd H (by simp)
 ·
  rw [if_neg c3] at H
  exact absurd H (by simp)
theorem nat_step.pos {k : Nat} {a b : List Int} {r : Int × List Int} (h : nat_step.f k a b = some r) : 0 < a.length := by
 unfold nat_step.f at h
 by_cases hb : (b.length : Int) < (a.length : Int)
 ·
  omega
 ·
  rw [if_pos (by omega), if_neg hb] at h
  exact absurd h (by simp)
set_option maxHeartbeats 8000000 in
theorem nat_step.callsW (k : Nat) (Ao A28 A1 : Option Addr) (n cap c28 c1 m lo hi : Nat) (us win l1 : List Int) (r1 : Int) (r2 : List Int) (ok okv : Nat → Prop) (w0 w : World) (hB : Below w0.heap.size w0 w)
  (hu : Kd.R (Kd.int .u32) 85 w w0.heap.size ok (.slice Ao n cap) us) (hv : Kd.V (Kd.int .u32) 85 w w0.heap.size okv (.slice A1 m c1) l1) (hne : ∀ k_, okv k_ → ¬ some k_ = (.slice Ao n cap : Value).ownBlock)
  (hlo : lo < hi) (hhi : hi ≤ us.length) (hwin : win = (us.take hi).drop lo) (hA : A28 = (if cap = lo then Ao else (Ao : Option Addr).map (·.add (lo * 1)))) (hc : c28 = cap - lo) (h : nat_step.f k win l1 = some (r1, r2)) :
  Calls Try.prog 110 #[.slice A28 win.length c28, .slice A1 l1.length c1] w fun e w' => e = .returned (.int .u32 r1) ∧ Kd.R (Kd.int .u32) 85 w' w0.heap.size ok (.slice Ao n cap) (us.take lo ++ r2 ++ us.drop hi) ∧ Below w0.heap.size w0 w' ∧ Kept w w' (fun k_ => some k_ = (.slice Ao n cap : Value).ownBlock) := by
 obtain ⟨go, co, eo, gb, gl, cl, HG⟩ := Kd.R_form hu (by omega)
 injection eo with ea en ec
 subst ea ec en
 have hroom := (Kd.R_reads' hu).2.1
 have hA' : A28 = some ⟨go, lo, none⟩ := by rw [hA, if_neg (by omega), Nat.mul_one]; simp [addr_add]
 subst hA' hwin hc
 have hm := (Kd.V_reads' hv).1
 subst hm
 have HU := Kd.U_of_R (c := cap - lo) (Kd.R_tight rfl hu) (Nat.le_of_lt hlo) hhi (by omega)
 refine (nat_step.callsU k ⟨go, lo, none⟩ (cap - lo) cap _ _ (fun k_ => some k_ = (.slice (some ⟨go, 0, none⟩) us.length cap : Value).ownBlock) _ A1 c1 l1 r1 r2 w0 w hB HU (Kd.C_kept_ownV hv hne) (Kd.V_reads' hv).2.1 h).mono ?_
 rintro e w' ⟨rfl, hU, hb, hk⟩
 have hl := (Kd.U_reads' hU).1
 have hR := Kd.R_of_U hU
 rw [List.length_drop, List.length_take] at hl
 rw [show (us.take lo ++ r2 ++ us.drop hi).length = us.length by rw [List.length_append, List.length_append, List.length_take, List.length_drop]; omega] at hR
 refine ⟨rfl, Kd.R_mono (Kd.R_tight rfl hR) (fun k_ hk_ => ?_), hb, hk⟩
 have e1 : k_ = go := by injection hk_
 subst e1
 exact hu.1 _ rfl
end Go.Proofs.Ytpjpbhjpobdenaa.PNat
