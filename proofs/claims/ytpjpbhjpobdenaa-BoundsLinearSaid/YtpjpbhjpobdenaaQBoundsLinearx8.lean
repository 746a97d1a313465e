/- A part of the print of this row, cut down to what the row uses. -/
import Derived.Test.YtpjpbhjpobdenaaQBoundsLinearx0
import Derived.Test.YtpjpbhjpobdenaaQBoundsLinearx4
import Derived.Test.YtpjpbhjpobdenaaQBoundsLinearWSq
-- printed by a scratch copy of the print, turned (wip/tools/turn_print.py)
namespace Go.Proofs.Ytpjpbhjpobdenaa.PBoundsLinear
open Go.RowKit Go.Proofs.YtpjpbhjpobdenaaW.PrintWords Go.Proofs.YtpjpbhjpobdenaaW.PrintLast Go.Proofs.YtpjpbhjpobdenaaW.PrintMore
attribute [local go_sem] max2_int min2_int max_two min_two max_three min_three max_four min_four   -- for this text's walks alone
set_option linter.unusedVariables false
set_option linter.unusedSimpArgs false
/-! ### codewrightref01_Trim: function 65 -/
def codewrightref01_Trim.l0 : Nat → List Int → Int → Option (List Int)
 | 0, _, _ => none
 | k + 1, x0, x3 => if x3 > 0 then (if 0 ≤ (wrap64 (x3 - 1)) then (if (wrap64 (x3 - 1)) < (x0.length : Int) then (if (rd x0 (wrap64 (x3 - 1))) = 0 then (codewrightref01_Trim.l0 k x0 (wrap64 (x3 - 1))) else ((some (([] : List Int) : List Int)).bind fun y214 => (if 0 ≤ x3 then (if x3 ≤ (x0.length : Int) then (if y214.length + (x0.take (x3 : Int).toNat).length < 35184372088832 then (some (y214 ++ (x0.take (x3 : Int).toNat))) else (none)) else (none)) else (none)))) else (none)) else (none)) else ((some (([] : List Int) : List Int)).bind fun y221 => (if 0 ≤ x3 then (if x3 ≤ (x0.length : Int) then (if y221.length + (x0.take (x3 : Int).toNat).length < 35184372088832 then (some (y221 ++ (x0.take (x3 : Int).toNat))) else (none)) else (none)) else (none)))
def codewrightref01_Trim.f (k : Nat) (l0 : List Int) : Option (List Int) := codewrightref01_Trim.l0 k l0 (l0.length : Int)
set_option maxHeartbeats 8000000 in
set_option maxRecDepth 100000 in
theorem codewrightref01_Trim.calls (k : Nat) (A0 : Option Addr) (c0 : Nat) (l0 : List Int) (r : List Int) (w : World) (hr0 : Kd.C (Kd.int .u32) w A0 l0.length l0) (hc0 : l0.length ≤ c0) (h : codewrightref01_Trim.f k l0 = some r) :
  Calls Try.prog 65 #[.slice A0 l0.length c0] w fun e w' => ∃ v0_ : Value, e = .returned (v0_) ∧ Kd.R (Kd.int .u32) 85 w' w.heap.size (fun _ => True) v0_ r ∧ Below w.heap.size w w' := by
 have HR0 := zA hr0
 have HC0 := zA hc0
 clear hr0 hc0
 have HB := zA (Below.refl w.heap.size w)
 have H : (codewrightref01_Trim.l0 k l0 (l0.length : Int)) = some r := h
 clear h
 have H' := zA H
 clear H
 go_enter Try.func65, Try.ntmps65
 go_wp2
 go_loopg [3] k (fun kq v3 w' => ∃ (x3_1 : Int), v3 = .int .i64 x3_1 ∧ Aside0 (codewrightref01_Trim.l0 kq l0 x3_1 = some r) ∧ Aside0 (kq ≤ k) ∧ Aside0 (Below w.heap.size w w'))
 case atStart => exact ⟨((l0.length : Int)), (by first | rfl | (simp; done) | (simp [*]; done)), H', ⟨Nat.le_refl _⟩, ⟨by exact zB HB⟩⟩
 case round =>
  clear H'
  obtain ⟨x3_1, rfl, HA, HK1, HB⟩ := hrel
  cases gk with
  | zero => exact absurd HA.out (by simp [codewrightref01_Trim.l0])
  | succ k1 =>
   have H := HA.out
   clear HA
   simp only [codewrightref01_Trim.l0] at H
   by_cases c2 : x3_1 > 0
   ·
    rw [if_pos c2] at H
    have c2b0 : decide (0 < x3_1) = true := decide_eq_true c2
    clear c2
    obtain ⟨ji3, hji3⟩ : ∃ j_ : Int, (wrap64 (x3_1 - 1)) = j_ := ⟨_, rfl⟩
    replace H : (if 0 ≤ (ji3) then (if (ji3) < (l0.length : Int) then (if (rd l0 (ji3)) = 0 then (codewrightref01_Trim.l0 k1 l0 ji3) else ((some (([] : List Int) : List Int)).bind fun y214 => (if 0 ≤ x3_1 then (if x3_1 ≤ (l0.length : Int) then (if y214.length + (l0.take (x3_1 : Int).toNat).length < 35184372088832 then (some (y214 ++ (l0.take (x3_1 : Int).toNat))) else (none)) else (none)) else (none)))) else (none)) else (none)) = some r := by first | (rw [hji3] at H; exact H) | (simp only [hji3] at H ⊢; exact H)
    have hji3w : (IntKind.i64.wrap (x3_1 - 1)) = ji3 := (i64_w _).trans hji3
    by_cases c4 : 0 ≤ (ji3)
    ·
     rw [if_pos c4] at H
     have c4b0 : decide (0 ≤ (ji3)) = true := decide_eq_true c4
     clear c4
     by_cases c5 : (ji3) < (l0.length : Int)
     ·
      rw [if_pos c5] at H
      have c5b0 : decide ((ji3) < (l0.length : Int)) = true := decide_eq_true c5
      clear c5
      by_cases c6 : (rd l0 (ji3)) = 0
      ·
       rw [if_pos c6] at H
       have c6b0 : ((rd l0 (ji3)) == 0) = true := beq_iff_eq.mpr c6
       have c6b1 : ((rd l0 (ji3)) != 0) = false := bne_eq_false_iff_eq.mpr c6
       clear c6
       have H' := zA H
       clear H
       have p213 : 0 ≤ ((ji3) : Int) := of_decide_eq_true (by assumption)
       have q213 : (ji3) < (l0.length : Int) := of_decide_eq_true (by assumption)
       obtain ⟨ad213, e213, hx213_0⟩ := Kd.at_int HR0.out (ji3) p213 q213
       cases e213
       replace hx213_0 := (HB.out.cell (World.block_lt_of_cell? w _ hx213_0)).trans hx213_0
       replace p213 := eq_true p213
       replace q213 := eq_true q213
       go_wp2
       go_roundg k1
       case measure => have := HK1.out; omega
       case rel => exact ⟨(ji3), (by first | rfl | (simp; done) | (simp only [← hji3] <;> (first | rfl | simp)) | (simp [*]; done)), H', ⟨by have := HK1.out; omega⟩, ⟨by exact zB HB⟩⟩
      ·
       rw [if_neg c6] at H
       have c6b0 : ((rd l0 (ji3)) == 0) = false := beq_eq_false_iff_ne.mpr c6
       have c6b1 : ((rd l0 (ji3)) != 0) = true := bne_iff_ne.mpr c6
       obtain ⟨y214, hy214⟩ : ∃ y_ : List Int, y_ = (([] : List Int)) := ⟨_, rfl⟩
       replace H : (if 0 ≤ x3_1 then (if x3_1 ≤ (l0.length : Int) then (if y214.length + (l0.take (x3_1 : Int).toNat).length < 35184372088832 then (some (y214 ++ (l0.take (x3_1 : Int).toNat))) else (none)) else (none)) else (none)) = some r := by first | (rw [hy214]; with_reducible exact H) | (have H := (Option.bind_some _ _).symm.trans H; first | (rw [hy214]; with_reducible exact H) | with_reducible exact H) | (rw [hy214]; exact H) | exact H
       have Ny214 := zA hy214
       clear hy214
       by_cases c7 : 0 ≤ x3_1
       ·
        rw [if_pos c7] at H
        have c7b0 := eq_true c7
        have c7b1 : decide (0 ≤ x3_1) = true := decide_eq_true c7
        clear c7
        by_cases c8 : x3_1 ≤ (l0.length : Int)
        ·
         rw [if_pos c8] at H
         have c8b0 := eq_true c8
         have c8b1 : decide (x3_1 ≤ (l0.length : Int)) = true := decide_eq_true c8
         clear c8
         by_cases c9 : y214.length + (l0.take (x3_1 : Int).toNat).length < 35184372088832
         ·
          rw [if_pos c9] at H
          have LMc9 := zA c9
          clear c9
          obtain ⟨y218, hy218⟩ : ∃ y_ : List Int, y_ = (y214 ++ (l0.take (x3_1 : Int).toNat)) := ⟨_, rfl⟩
          replace H : (some y218) = some r := by first | (rw [hy218]; with_reducible exact H) | (have H := (Option.bind_some _ _).symm.trans H; first | (rw [hy218]; with_reducible exact H) | with_reducible exact H) | (rw [hy218]; exact H) | exact H
          have Ny218 := zA hy218
          clear hy218
          obtain rfl := Option.some.inj H
          have p213 : 0 ≤ ((ji3) : Int) := of_decide_eq_true (by assumption)
          have q213 : (ji3) < (l0.length : Int) := of_decide_eq_true (by assumption)
          obtain ⟨ad213, e213, hx213_0⟩ := Kd.at_int HR0.out (ji3) p213 q213
          cases e213
          replace hx213_0 := (HB.out.cell (World.block_lt_of_cell? w _ hx213_0)).trans hx213_0
          replace p213 := eq_true p213
          replace q213 := eq_true q213
          go_wp2_with (first | ((with_reducible refine gate_dst (N := 18) rfl ?_); refine Kd.R_lit (Kd.int .u32) _ 85 ?hg (N := 18) ?hd (xs := ([] : List Int)) (inner := []) (ok := fun _ => True) (okp := fun _ => True) ?hr ?hp (fun _ hk => hk) trivial (Below.refl _ _) (Nat.le_refl _) (by simp) ?_; (case hd => rfl); (case hg => rfl); (case hr => first | (go_simp; done) | (go_simp; rfl)); (case hp => exact (Reps.none _ _)); intro v215 w10 ho11 hb hg_ hnew_; clear hg_ hnew_; (first | rw [← Ny214.out] at ho11 | (simp only [Int.reduceToNat] at ho11; rw [← Ny214.out] at ho11)); have HO216 := zA (Kd.R_lower ho11 (below_size (by exact zB HB))); replace HB := zA (below_step (by exact zB HB) hb); clear hb ho11; obtain ⟨i012, hi012, _, hsz12, _⟩ := info_parts info85; obtain ⟨hcut12, hA12, hC12⟩ := print_take_of (P := Try.prog) (Value.int .u32) 0 38 85 .i64 Try.underlying38 hi012 hsz12 (some ad213) c0 l0 x3_1 (of_decide_eq_true (by assumption)) (of_decide_eq_true (by assumption)) HC0.out; have HR217 := zA (Kd.C_of_reads (h1 := fun _ => rfl) (hA12 _ (Kd.reads_of_C HR0.out))); have HC217 := zA hC12; clear hA12 hC12 hi012 hsz12) | ((with_reducible refine gate_builtin (b := .append) (xs := #[(.tmp 18), .tmp 21]) rfl ?_); at_builtin; refine Kd.R_append_rows (Kd.int .u32) (w0 := w) w.heap.size rfl (.tmp 18) (.tmp 21) 38 85 (.int .u32 0) 4 rfl Try.underlying38 info85 rfl (by decide) (by omega) v215 y214 (l0.take (x3_1 : Int).toNat) _ _ _ (fun _ => True) (fun _ => False) rfl rfl ?aO ?aR (fun _ _ h => h) (fun _ h => h.elim) ?aF ?aB ?aS ?aL ?_; (case aR => first | (refine cast (congrArg (fun m_ => ReadsRow _ _ _ _ m_ _) (show (l0.take (x3_1 : Int).toNat).length = x3_1.toNat from (by rw [List.length_take]; have h_ : (x3_1 : Int) ≤ (l0.length : Int) := of_decide_eq_true (by assumption); omega))) ?_; exact zC ((Kd.C_below HR217.out HB.out))) | (exact zC ((Kd.C_below HR217.out HB.out)))); (case aB => exact (by exact zB HB)); (case aF => exact (fun _ _ => trivial)); (case aO => exact (by exact zR HO216)); (case aS => exact (below_size (by exact zB HB))); (case aL => have := LMc9.out; have hlx_ := (show (l0.take (x3_1 : Int).toNat).length = x3_1.toNat from (by rw [List.length_take]; have h_ : (x3_1 : Int) ≤ (l0.length : Int) := of_decide_eq_true (by assumption); omega)); omega); intro v219 w13 ho hb hg hat; rw [← Ny218.out] at ho; have n0_ := zA (hb); have n1_ := zA (ho); clear HB; clear HO216; have HB := n0_; have HO220 := n1_; clear n0_ n1_; clear ho hb hg hat))
          go_ret
          exact ⟨_, by first | rfl | (simp [errW_none, errW_some] <;> rfl) | (simp only [← hji3]; first | rfl | (simp [errW_none, errW_some] <;> rfl)) | (simp [*, errW_none, errW_some] <;> rfl), by exact zR HO220, by exact zB HB⟩
         ·
          rw [if_neg c9] at H
          exact absurd H (by simp)
        ·
         rw [if_neg c8] at H
         exact absurd H (by simp)
       ·
        rw [if_neg c7] at H
        exact absurd H (by simp)
     ·
      rw [if_neg c5] at H
      exact absurd H (by simp)
    ·
     rw [if_neg c4] at H
     exact absurd H (by simp)
   ·
    rw [if_neg c2] at H
    have c2b0 : decide (0 < x3_1) = false := decide_eq_false c2
    clear c2
    obtain ⟨y221, hy221⟩ : ∃ y_ : List Int, y_ = (([] : List Int)) := ⟨_, rfl⟩
    replace H : (if 0 ≤ x3_1 then (if x3_1 ≤ (l0.length : Int) then (if y221.length + (l0.take (x3_1 : Int).toNat).length < 35184372088832 then (some (y221 ++ (l0.take (x3_1 : Int).toNat))) else (none)) else (none)) else (none)) = some r := by first | (rw [hy221]; with_reducible exact H) | (have H := (Option.bind_some _ _).symm.trans H; first | (rw [hy221]; with_reducible exact H) | with_reducible exact H) | (rw [hy221]; exact H) | exact H
    have Ny221 := zA hy221
    clear hy221
    by_cases c14 : 0 ≤ x3_1
    ·
     rw [if_pos c14] at H
     have c14b0 := eq_true c14
     have c14b1 : decide (0 ≤ x3_1) = true := decide_eq_true c14
     clear c14
     by_cases c15 : x3_1 ≤ (l0.length : Int)
     ·
      rw [if_pos c15] at H
      have c15b0 := eq_true c15
      have c15b1 : decide (x3_1 ≤ (l0.length : Int)) = true := decide_eq_true c15
      clear c15
      by_cases c16 : y221.length + (l0.take (x3_1 : Int).toNat).length < 35184372088832
      ·
       rw [if_pos c16] at H
       have LMc16 := zA c16
       clear c16
       obtain ⟨y225, hy225⟩ : ∃ y_ : List Int, y_ = (y221 ++ (l0.take (x3_1 : Int).toNat)) := ⟨_, rfl⟩
       replace H : (some y225) = some r := by first | (rw [hy225]; with_reducible exact H) | (have H := (Option.bind_some _ _).symm.trans H; first | (rw [hy225]; with_reducible exact H) | with_reducible exact H) | (rw [hy225]; exact H) | exact H
       have Ny225 := zA hy225
       clear hy225
       obtain rfl := Option.some.inj H
       go_wp2_with (first | ((with_reducible refine gate_dst (N := 18) rfl ?_); refine Kd.R_lit (Kd.int .u32) _ 85 ?hg (N := 18) ?hd (xs := ([] : List Int)) (inner := []) (ok := fun _ => True) (okp := fun _ => True) ?hr ?hp (fun _ hk => hk) trivial (Below.refl _ _) (Nat.le_refl _) (by simp) ?_; (case hd => rfl); (case hg => rfl); (case hr => first | (go_simp; done) | (go_simp; rfl)); (case hp => exact (Reps.none _ _)); intro v222 w17 ho18 hb hg_ hnew_; clear hg_ hnew_; (first | rw [← Ny221.out] at ho18 | (simp only [Int.reduceToNat] at ho18; rw [← Ny221.out] at ho18)); have HO223 := zA (Kd.R_lower ho18 (below_size (by exact zB HB))); replace HB := zA (below_step (by exact zB HB) hb); clear hb ho18; obtain ⟨i019, hi019, _, hsz19, _⟩ := info_parts info85; obtain ⟨hcut19, hA19, hC19⟩ := print_take_of (P := Try.prog) (Value.int .u32) 0 38 85 .i64 Try.underlying38 hi019 hsz19 A0 c0 l0 x3_1 (of_decide_eq_true (by assumption)) (of_decide_eq_true (by assumption)) HC0.out; have HR224 := zA (Kd.C_of_reads (h1 := fun _ => rfl) (hA19 _ (Kd.reads_of_C HR0.out))); have HC224 := zA hC19; clear hA19 hC19 hi019 hsz19) | ((with_reducible refine gate_builtin (b := .append) (xs := #[(.tmp 18), .tmp 21]) rfl ?_); at_builtin; refine Kd.R_append_rows (Kd.int .u32) (w0 := w) w.heap.size rfl (.tmp 18) (.tmp 21) 38 85 (.int .u32 0) 4 rfl Try.underlying38 info85 rfl (by decide) (by omega) v222 y221 (l0.take (x3_1 : Int).toNat) _ _ _ (fun _ => True) (fun _ => False) rfl rfl ?aO ?aR (fun _ _ h => h) (fun _ h => h.elim) ?aF ?aB ?aS ?aL ?_; (case aR => first | (refine cast (congrArg (fun m_ => ReadsRow _ _ _ _ m_ _) (show (l0.take (x3_1 : Int).toNat).length = x3_1.toNat from (by rw [List.length_take]; have h_ : (x3_1 : Int) ≤ (l0.length : Int) := of_decide_eq_true (by assumption); omega))) ?_; exact zC ((Kd.C_below HR224.out HB.out))) | (exact zC ((Kd.C_below HR224.out HB.out)))); (case aB => exact (by exact zB HB)); (case aF => exact (fun _ _ => trivial)); (case aO => exact (by exact zR HO223)); (case aS => exact (below_size (by exact zB HB))); (case aL => have := LMc16.out; have hlx_ := (show (l0.take (x3_1 : Int).toNat).length = x3_1.toNat from (by rw [List.length_take]; have h_ : (x3_1 : Int) ≤ (l0.length : Int) := of_decide_eq_true (by assumption); omega)); omega); intro v226 w20 ho hb hg hat; rw [← Ny225.out] at ho; have n0_ := zA (hb); have n1_ := zA (ho); clear HB; clear HO223; have HB := n0_; have HO227 := n1_; clear n0_ n1_; clear ho hb hg hat))
       go_ret
       exact ⟨_, by first | rfl | (simp [errW_none, errW_some] <;> rfl) | (simp [*, errW_none, errW_some] <;> rfl), by exact zR HO227, by exact zB HB⟩
      ·
       rw [if_neg c16] at H
       exact absurd H (by simp)
     ·
      rw [if_neg c15] at H
      exact absurd H (by simp)
    ·
     rw [if_neg c14] at H
     exact absurd H (by simp)
/-! ### codewrightref01_Zero: function 46 -/
def codewrightref01_Zero.f (k : Nat) (l0 : List Int) : Option (Bool) := (codewrightref01_Trim.f k l0).bind fun t228 => (some ((t228.length : Int) == 0))
set_option maxHeartbeats 8000000 in
set_option maxRecDepth 100000 in
theorem codewrightref01_Zero.calls (k : Nat) (A0 : Option Addr) (c0 : Nat) (l0 : List Int) (r : Bool) (w : World) (hr0 : Kd.C (Kd.int .u32) w A0 l0.length l0) (hc0 : l0.length ≤ c0) (h : codewrightref01_Zero.f k l0 = some r) :
  Calls Try.prog 46 #[.slice A0 l0.length c0] w fun e w' => e = .returned (.bool r) ∧ Below w.heap.size w w' := by
 have HR0 := zA hr0
 have HC0 := zA hc0
 clear hr0 hc0
 have HB := zA (Below.refl w.heap.size w)
 have H : ((codewrightref01_Trim.f k l0).bind fun t228 => (some ((t228.length : Int) == 0))) = some r := h
 clear h
 replace H := Option.bind_eq_some_iff.mp H
 obtain ⟨t228, A20, H⟩ := H
 replace H : (some ((t228.length : Int) == 0)) = some r := H
 have A2 := zA A20
 clear A20
 obtain rfl := Option.some.inj H
 go_enter Try.func46, Try.ntmps46
 go_wp2_with (first | ((with_reducible refine gate_callee (f := 65) rfl ?_); refine goesL_ (some 4) rfl rfl Try.func65 (by kernel_rfl) rfl #[.slice A0 l0.length c0] rfl (by (try simp only [List.map_toArray, List.map_cons, List.map_nil]); first | done | rfl | (simp only [List.length_drop, List.length_take]; rfl)) ?_; (with_reducible refine (codewrightref01_Trim.calls k _ _ l0 t228 _ ?side1 ?side2 A2.out).mono ?_); (case side1 => exact zC (HR0.out)); (case side2 => exact HC0.out); rintro e w3 ⟨v229, rfl, ho0, hb⟩; refine ⟨_, rfl, ?_⟩; have HO230 := zA (Kd.R_lower ho0 (below_size (by exact zB HB))); replace HB := zA (below_step (by exact zB HB) hb); (try clear hb ho0); obtain ⟨Ao4, co4, eo4⟩ := Kd.R_slice HO230.out; subst eo4))
 go_ret
 exact ⟨by first | rfl | (simp [errW_none, errW_some] <;> rfl) | (simp [*, errW_none, errW_some] <;> rfl), by exact zB HB⟩
/-! ### codewrightref24_Least: function 11 -/
def codewrightref24_Least.l0 : Nat → List (List Int) → Int → Option (Int)
 | 0, _, _ => none
 | k + 1, x0, x3 => if x3 < (x0.length : Int) then (if 0 ≤ x3 then ((codewrightref01_Zero.f k (rd_L3 x0 x3)).bind fun t232 => (if t232 = true then (codewrightref24_Least.l0 k x0 (wrap64 (x3 + 1))) else (some x3))) else (none)) else (some 0)
def codewrightref24_Least.f (k : Nat) (l0 : List (List Int)) : Option (Int) := codewrightref24_Least.l0 k l0 1
set_option maxHeartbeats 8000000 in
set_option maxRecDepth 100000 in
theorem codewrightref24_Least.calls (k : Nat) (A0 : Option Addr) (c0 : Nat) (l0 : List (List Int)) (r : Int) (w : World) (hr0 : Kd.C (Kd.slice 85 (Kd.int .u32)) w A0 l0.length l0) (hc0 : l0.length ≤ c0) (h : codewrightref24_Least.f k l0 = some r) :
  Calls Try.prog 11 #[.slice A0 l0.length c0] w fun e w' => e = .returned (.int .i64 r) ∧ Below w.heap.size w w' := by
 have HR0 := zA hr0
 have HC0 := zA hc0
 clear hr0 hc0
 have HB := zA (Below.refl w.heap.size w)
 have H : (codewrightref24_Least.l0 k l0 1) = some r := h
 clear h
 have H' := zA H
 clear H
 go_enter Try.func11, Try.ntmps11
 go_wp2
 go_loopg [3] k (fun kq v3 w' => ∃ (x3_1 : Int), v3 = .int .i64 x3_1 ∧ Aside0 (codewrightref24_Least.l0 kq l0 x3_1 = some r) ∧ Aside0 (kq ≤ k) ∧ Aside0 (Below w.heap.size w w'))
 case atStart => exact ⟨(1), (by first | rfl | (simp; done) | (simp [*]; done)), H', ⟨Nat.le_refl _⟩, ⟨by exact zB HB⟩⟩
 case round =>
  clear H'
  try clear c1
  obtain ⟨x3_1, rfl, HA, HK1, HB⟩ := hrel
  cases gk with
  | zero => exact absurd HA.out (by simp [codewrightref24_Least.l0])
  | succ k1 =>
   have H := HA.out
   clear HA
   simp only [codewrightref24_Least.l0] at H
   by_cases c2 : x3_1 < (l0.length : Int)
   ·
    rw [if_pos c2] at H
    have c2b0 : decide (x3_1 < (l0.length : Int)) = true := decide_eq_true c2
    clear c2
    by_cases c3 : 0 ≤ x3_1
    ·
     rw [if_pos c3] at H
     have c3b0 : decide (0 ≤ x3_1) = true := decide_eq_true c3
     clear c3
     replace H := Option.bind_eq_some_iff.mp H
     obtain ⟨t232, A40, H⟩ := H
     replace H : (if t232 = true then (codewrightref24_Least.l0 k1 l0 (wrap64 (x3_1 + 1))) else (some x3_1)) = some r := H
     have A4 := zA A40
     clear A40
     by_cases c5 : t232 = true
     ·
      subst c5
      have H1 : (codewrightref24_Least.l0 k1 l0 (wrap64 (x3_1 + 1))) = some r := by rw [if_pos rfl] at H; exact H
      clear H
      have H := H1
      clear H1
      have H' := zA H
      clear H
      have p231 : 0 ≤ (x3_1 : Int) := of_decide_eq_true (by assumption)
      have q231 : x3_1 < (l0.length : Int) := of_decide_eq_true (by assumption)
      obtain ⟨ad231, A231_0, c231_0, e231, hx231_0, hl231_0, hi231_0⟩ := at_L3 HR0.out x3_1 p231 q231
      cases e231
      replace hx231_0 := (HB.out.cell (World.block_lt_of_cell? w _ hx231_0)).trans hx231_0
      have HR231_0 := zA hi231_0
      have HC231_0 := zA hl231_0
      clear hi231_0 hl231_0
      replace p231 := eq_true p231
      replace q231 := eq_true q231
      go_wp2_with (first | ((with_reducible refine gate_callee (f := 46) rfl ?_); refine goesL_ (some 14) rfl rfl Try.func46 (by kernel_rfl) rfl #[.slice A231_0 (rd_L3 l0 x3_1).length c231_0] rfl (by (try simp only [List.map_toArray, List.map_cons, List.map_nil]); first | done | rfl | (simp only [List.length_drop, List.length_take]; rfl)) ?_; (with_reducible refine (codewrightref01_Zero.calls k1 _ _ (rd_L3 l0 x3_1) true _ ?side1 ?side2 A4.out).mono ?_); (case side1 => exact zC ((Kd.C_below HR231_0.out HB.out))); (case side2 => exact HC231_0.out); rintro e w6 ⟨rfl, hb⟩; refine ⟨_, rfl, ?_⟩; replace HB := zA (below_step (by exact zB HB) hb); (try clear hb)))
      go_roundg k1
      case measure => have := HK1.out; omega
      case rel => exact ⟨(wrap64 (x3_1 + 1)), (by first | rfl | (simp; done) | (simp [*]; done)), H', ⟨by have := HK1.out; omega⟩, ⟨by exact zB HB⟩⟩
     ·
      replace c5 := Bool.eq_false_iff.mpr c5
      subst c5
      have H1 : (some x3_1) = some r := by rw [if_neg (show ¬ (false = true) by decide)] at H; exact H
      clear H
      have H := H1
      clear H1
      obtain rfl := Option.some.inj H
      have p231 : 0 ≤ (x3_1 : Int) := of_decide_eq_true (by assumption)
      have q231 : x3_1 < (l0.length : Int) := of_decide_eq_true (by assumption)
      obtain ⟨ad231, A231_0, c231_0, e231, hx231_0, hl231_0, hi231_0⟩ := at_L3 HR0.out x3_1 p231 q231
      cases e231
      replace hx231_0 := (HB.out.cell (World.block_lt_of_cell? w _ hx231_0)).trans hx231_0
      have HR231_0 := zA hi231_0
      have HC231_0 := zA hl231_0
      clear hi231_0 hl231_0
      replace p231 := eq_true p231
      replace q231 := eq_true q231
      go_wp2_with (first | ((with_reducible refine gate_callee (f := 46) rfl ?_); refine goesL_ (some 14) rfl rfl Try.func46 (by kernel_rfl) rfl #[.slice A231_0 (rd_L3 l0 x3_1).length c231_0] rfl (by (try simp only [List.map_toArray, List.map_cons, List.map_nil]); first | done | rfl | (simp only [List.length_drop, List.length_take]; rfl)) ?_; (with_reducible refine (codewrightref01_Zero.calls k1 _ _ (rd_L3 l0 x3_1) false _ ?side1 ?side2 A4.out).mono ?_); (case side1 => exact zC ((Kd.C_below HR231_0.out HB.out))); (case side2 => exact HC231_0.out); rintro e w7 ⟨rfl, hb⟩; refine ⟨_, rfl, ?_⟩; replace HB := zA (below_step (by exact zB HB) hb); (try clear hb)))
      go_ret
      exact ⟨by first | rfl | (simp [errW_none, errW_some] <;> rfl) | (simp [*, errW_none, errW_some] <;> rfl), by exact zB HB⟩
    ·
     rw [if_neg c3] at H
     exact absurd H (by simp)
   ·
    rw [if_neg c2] at H
    have c2b0 : decide (x3_1 < (l0.length : Int)) = false := decide_eq_false c2
    clear c2
    obtain rfl := Option.some.inj H
    go_wp2
    go_ret
    exact ⟨by first | rfl | (simp [errW_none, errW_some] <;> rfl) | (simp [*, errW_none, errW_some] <;> rfl), by exact zB HB⟩
/-! ### codewrightref01_Of: function 31 -/
def codewrightref01_Of.f (k : Nat) (a0 : Int) : Option (List Int) := (codewrightref01_Trim.f k (([(Int.tmod a0 4294967296) % 4294967296, (IntKind.u64.wrap (Int.tdiv a0 4294967296)) % 4294967296] : List Int))).bind fun t236 => (some t236)
set_option maxHeartbeats 8000000 in
set_option maxRecDepth 100000 in
theorem codewrightref01_Of.calls (k : Nat) (a0 : Int) (r : List Int) (w : World) (h : codewrightref01_Of.f k a0 = some r) :
  Calls Try.prog 31 #[.int .u64 a0] w fun e w' => ∃ v0_ : Value, e = .returned (v0_) ∧ Kd.R (Kd.int .u32) 85 w' w.heap.size (fun _ => True) v0_ r ∧ Below w.heap.size w w' := by
 have HB := zA (Below.refl w.heap.size w)
 have H : ((codewrightref01_Trim.f k (([(Int.tmod a0 4294967296) % 4294967296, (IntKind.u64.wrap (Int.tdiv a0 4294967296)) % 4294967296] : List Int))).bind fun t236 => (some t236)) = some r := h
 clear h
 obtain ⟨y233, hy233⟩ : ∃ y_ : List Int, y_ = (([(Int.tmod a0 4294967296) % 4294967296, (IntKind.u64.wrap (Int.tdiv a0 4294967296)) % 4294967296] : List Int)) := ⟨_, rfl⟩
 replace H : ((codewrightref01_Trim.f k y233).bind fun t236 => (some t236)) = some r := by first | (rw [hy233]; with_reducible exact H) | (have H := (Option.bind_some _ _).symm.trans H; first | (rw [hy233]; with_reducible exact H) | with_reducible exact H) | (rw [hy233]; exact H) | exact H
 have Ny233 := zA hy233
 clear hy233
 replace H := Option.bind_eq_some_iff.mp H
 obtain ⟨t236, A20, H⟩ := H
 replace H : (some t236) = some r := H
 have A2 := zA A20
 clear A20
 obtain rfl := Option.some.inj H
 go_enter Try.func31, Try.ntmps31
 go_wp2_with (first | ((with_reducible refine gate_dst (N := 9) rfl ?_); refine Kd.R_lit (Kd.int .u32) _ 85 ?hg (N := 9) ?hd (xs := ([(Int.tmod a0 4294967296) % 4294967296, (IntKind.u64.wrap (Int.tdiv a0 4294967296)) % 4294967296] : List Int)) (inner := [.int .u32 ((Int.tmod a0 4294967296) % 4294967296), .int .u32 ((IntKind.u64.wrap (Int.tdiv a0 4294967296)) % 4294967296)]) (ok := fun _ => True) (okp := fun _ => True) ?hr ?hp (fun _ hk => hk) trivial (Below.refl _ _) (Nat.le_refl _) (by simp) ?_; (case hd => rfl); (case hg => rfl); (case hr => first | (go_simp; done) | (go_simp; rfl)); (case hp => exact (Reps.one (show Kd.M (Kd.int .u32) _ _ _ ((Int.tmod a0 4294967296) % 4294967296) [.int .u32 ((Int.tmod a0 4294967296) % 4294967296)] from rfl) (Reps.one (show Kd.M (Kd.int .u32) _ _ _ ((IntKind.u64.wrap (Int.tdiv a0 4294967296)) % 4294967296) [.int .u32 ((IntKind.u64.wrap (Int.tdiv a0 4294967296)) % 4294967296)] from rfl) (Reps.none _ _)))); intro v234 w3 ho4 hb hg_ hnew_; clear hg_ hnew_; (first | rw [← Ny233.out] at ho4 | (simp only [Int.reduceToNat] at ho4; rw [← Ny233.out] at ho4)); have HO235 := zA (Kd.R_lower ho4 (below_size (by exact zB HB))); replace HB := zA (below_step (by exact zB HB) hb); clear hb ho4; obtain ⟨Ao5, co5, eo5⟩ := Kd.R_slice HO235.out; subst eo5) | ((with_reducible refine gate_callee (f := 65) rfl ?_); refine goesL_ (some 10) rfl rfl Try.func65 (by kernel_rfl) rfl #[.slice Ao5 y233.length co5] rfl (by (try simp only [List.map_toArray, List.map_cons, List.map_nil]); first | done | rfl | (simp only [List.length_drop, List.length_take]; rfl)) ?_; (with_reducible refine (codewrightref01_Trim.calls k _ _ y233 t236 _ ?side1 ?side2 A2.out).mono ?_); (case side1 => exact zC ((Kd.R_reads' HO235.out).2.2)); (case side2 => exact (Kd.R_reads' HO235.out).2.1); rintro e w6 ⟨v237, rfl, ho0, hb⟩; refine ⟨_, rfl, ?_⟩; have HO238 := zA (Kd.R_lower (Kd.R_new' ho0 (Kd.R_lt (by exact zR HO235))) (below_size (by exact zB HB))); replace HO235 := zA (Kd.R_elder' (by exact zR HO235) (Kd.R_base ho0) hb); replace HB := zA (below_step (by exact zB HB) hb); (try clear hb ho0)))
 go_ret
 exact ⟨_, by first | rfl | (simp [errW_none, errW_some] <;> rfl) | (simp [*, errW_none, errW_some] <;> rfl), by (with_reducible repeat (first | apply Kd.R_alloc | apply Kd.R_drewN | apply Kd.R_drew)); exact Kd.R_mono HO238.out (fun _ hk => trivial), by exact zB HB⟩
/-! ### codewrightref24_Weights: function 12 -/
mutual
def codewrightref24_Weights.l0 : Nat → Int → List (List Int) → List Int → List Int → Int → Option ((List (List Int)))
 | 0, _, _, _, _, _ => none
 | k + 1, x0, x1, x5, x6, x7 => if x7 < (x1.length : Int) then (if 0 ≤ x7 then ((codewrightref24_Distance.f k (rd_L1 x1 x7) x6).bind fun t246 => (if 0 ≤ t246 then (if t246 < (x5.length : Int) then (codewrightref24_Weights.l0 k x0 x1 (x5.set (t246 : Int).toNat (wrap64 ((rd x5 t246) + 1))) x6 (wrap64 (x7 + 1))) else (none)) else (none))) else (none)) else (codewrightref24_Weights.l1 k x0 x5 ([] : List (List Int)) 0)
def codewrightref24_Weights.l1 : Nat → Int → List Int → List (List Int) → Int → Option ((List (List Int)))
 | 0, _, _, _, _ => none
 | k + 1, x0, x5, x8, x9 => if x9 ≤ x0 then (if 0 ≤ x9 then (if x9 < (x5.length : Int) then ((codewrightref01_Of.f k (IntKind.u64.wrap (rd x5 x9))).bind fun t250 => (if x8.length < 5864062014805 then (codewrightref24_Weights.l1 k x0 x5 (x8 ++ [t250]) (wrap64 (x9 + 1))) else (none))) else (none)) else (none)) else (some x8)
end
def codewrightref24_Weights.f (k : Nat) (a0 : Int) (l1 : List (List Int)) : Option ((List (List Int))) := if 0 ≤ (wrap64 (a0 + 1)) then (if (wrap64 (a0 + 1) : Int).toNat ≤ 35184372088832 then (if 0 ≤ a0 then (if (a0 : Int).toNat ≤ 35184372088832 then (codewrightref24_Weights.l0 k a0 l1 (List.replicate (wrap64 (a0 + 1) : Int).toNat 0) (List.replicate (a0 : Int).toNat 0) 0) else (none)) else (none)) else (none)) else (none)
set_option maxHeartbeats 8000000 in
set_option maxRecDepth 100000 in
theorem codewrightref24_Weights.calls (k : Nat) (a0 : Int) (A1 : Option Addr) (c1 : Nat) (l1 : List (List Int)) (r : List (List Int)) (w : World) (hr1 : Kd.C (Kd.slice 3 (Kd.int .i64)) w A1 l1.length l1) (hc1 : l1.length ≤ c1) (h : codewrightref24_Weights.f k a0 l1 = some r) :
  Calls Try.prog 12 #[.int .i64 a0, .slice A1 l1.length c1] w fun e w' => ∃ v0_ : Value, e = .returned (v0_) ∧ Kd.S (Kd.slice 85 (Kd.int .u32)) 38 w' w.heap.size (fun _ => True) v0_ r ∧ Below w.heap.size w w' := by
 have HR1 := zA hr1
 have HC1 := zA hc1
 clear hr1 hc1
 have HB := zA (Below.refl w.heap.size w)
 have H : (if 0 ≤ (wrap64 (a0 + 1)) then (if (wrap64 (a0 + 1) : Int).toNat ≤ 35184372088832 then (if 0 ≤ a0 then (if (a0 : Int).toNat ≤ 35184372088832 then (codewrightref24_Weights.l0 k a0 l1 (List.replicate (wrap64 (a0 + 1) : Int).toNat 0) (List.replicate (a0 : Int).toNat 0) 0) else (none)) else (none)) else (none)) else (none)) = some r := h
 clear h
 obtain ⟨ji3, hji3⟩ : ∃ j_ : Int, (wrap64 (a0 + 1)) = j_ := ⟨_, rfl⟩
 replace H : (if 0 ≤ (ji3) then (if (ji3 : Int).toNat ≤ 35184372088832 then (if 0 ≤ a0 then (if (a0 : Int).toNat ≤ 35184372088832 then (codewrightref24_Weights.l0 k a0 l1 (List.replicate (ji3 : Int).toNat 0) (List.replicate (a0 : Int).toNat 0) 0) else (none)) else (none)) else (none)) else (none)) = some r := by first | (rw [hji3] at H; exact H) | (simp only [hji3] at H ⊢; exact H)
 have hji3w : (IntKind.i64.wrap (a0 + 1)) = ji3 := (i64_w _).trans hji3
 by_cases c4 : 0 ≤ (ji3)
 ·
  rw [if_pos c4] at H
  have c4b0 := eq_true c4
  have c4b1 : decide (0 ≤ (ji3)) = true := decide_eq_true c4
  clear c4
  by_cases c5 : (ji3 : Int).toNat ≤ 35184372088832
  ·
   rw [if_pos c5] at H
   have c5b0 := eq_true c5
   have c5b1 : decide ((ji3 : Int).toNat ≤ 35184372088832) = true := decide_eq_true c5
   clear c5
   obtain ⟨y239, hy239⟩ : ∃ y_ : List Int, y_ = (List.replicate (ji3 : Int).toNat 0) := ⟨_, rfl⟩
   replace H : (if 0 ≤ a0 then (if (a0 : Int).toNat ≤ 35184372088832 then (codewrightref24_Weights.l0 k a0 l1 y239 (List.replicate (a0 : Int).toNat 0) 0) else (none)) else (none)) = some r := by first | (rw [hy239]; with_reducible exact H) | (have H := (Option.bind_some _ _).symm.trans H; first | (rw [hy239]; with_reducible exact H) | with_reducible exact H) | (rw [hy239]; exact H) | exact H
   have Ny239 := zA hy239
   clear hy239
   by_cases c6 : 0 ≤ a0
   ·
    rw [if_pos c6] at H
    have c6b0 := eq_true c6
    have c6b1 : decide (0 ≤ a0) = true := decide_eq_true c6
    clear c6
    by_cases c7 : (a0 : Int).toNat ≤ 35184372088832
    ·
     rw [if_pos c7] at H
     have c7b0 := eq_true c7
     have c7b1 : decide ((a0 : Int).toNat ≤ 35184372088832) = true := decide_eq_true c7
     clear c7
     obtain ⟨y242, hy242⟩ : ∃ y_ : List Int, y_ = (List.replicate (a0 : Int).toNat 0) := ⟨_, rfl⟩
     replace H : (codewrightref24_Weights.l0 k a0 l1 y239 y242 0) = some r := by first | (rw [hy242]; with_reducible exact H) | (have H := (Option.bind_some _ _).symm.trans H; first | (rw [hy242]; with_reducible exact H) | with_reducible exact H) | (rw [hy242]; exact H) | exact H
     have Ny242 := zA hy242
     clear hy242
     have H' := zA H
     clear H
     go_enter Try.func12, Try.ntmps12
     go_wp2_with (first | ((with_reducible refine gate_dst (N := 12) rfl ?_); refine Kd.R_make (Kd.int .i64) _ 3 rfl (N := 12) rfl 22 _ _ rfl ji3 rfl rfl Try.underlying22 (.int .i64 0) 8 info3 rfl (by decide) (by omega) 0 (ok := fun _ => True) (okp := fun _ => True) rfl (fun _ hk => hk) trivial (of_decide_eq_true (by assumption)) (Nat.le_trans (Nat.mul_le_mul_right _ (of_decide_eq_true (by assumption) : ji3.toNat ≤ 35184372088832)) (by omega)) (Below.refl _ _) (Nat.le_refl _) ?_; intro v240 w8 ho9 hb hg_ hnew_; clear hg_ hnew_; (first | rw [← Ny239.out] at ho9 | (simp only [Int.reduceToNat] at ho9; rw [← Ny239.out] at ho9)); have HO241 := zA (Kd.R_lower ho9 (below_size (by exact zB HB))); replace HB := zA (below_step (by exact zB HB) hb); clear hb ho9) | ((with_reducible refine gate_dst (N := 14) rfl ?_); refine Kd.R_make (Kd.int .i64) _ 3 rfl (N := 14) rfl 22 _ _ rfl a0 rfl rfl Try.underlying22 (.int .i64 0) 8 info3 rfl (by decide) (by omega) 0 (ok := fun _ => True) (okp := fun _ => True) rfl (fun _ hk => hk) trivial (of_decide_eq_true (by assumption)) (Nat.le_trans (Nat.mul_le_mul_right _ (of_decide_eq_true (by assumption) : a0.toNat ≤ 35184372088832)) (by omega)) (Below.refl _ _) (Nat.le_refl _) ?_; intro v243 w10 ho11 hb hg_ hnew_; clear hg_ hnew_; (first | rw [← Ny242.out] at ho11 | (simp only [Int.reduceToNat] at ho11; rw [← Ny242.out] at ho11)); have HO244 := zA (Kd.R_lower (Kd.R_new' ho11 (Kd.R_lt (by exact zR HO241))) (below_size (by exact zB HB))); replace HO241 := zA (Kd.R_elder' (by exact zR HO241) (Kd.R_base ho11) hb); replace HB := zA (below_step (by exact zB HB) hb); clear hb ho11))
     go_loopg [7] k (fun kq v7 w' => ∃ (x5_1 : List Int) (x7_1 : Int), v7 = .int .i64 x7_1 ∧ Aside0 (codewrightref24_Weights.l0 kq a0 l1 x5_1 y242 x7_1 = some r) ∧ Aside0 (kq ≤ k) ∧ Aside0 (Kd.R (Kd.int .i64) 3 w' w.heap.size (fun k_ => some k_ ≠ (v243 : Value).ownBlock) v240 x5_1) ∧ Aside0 (Kd.R (Kd.int .i64) 3 w' w.heap.size (fun k_ => some k_ ≠ (v240 : Value).ownBlock) v243 y242) ∧ Aside0 (Below w.heap.size w w'))
     case atStart => exact ⟨(y239), (0), (by first | rfl | (simp; done) | (simp [*]; done)), H', ⟨Nat.le_refl _⟩, ⟨by (with_reducible repeat (first | apply Kd.R_alloc | apply Kd.R_drewN | apply Kd.R_drew)); exact Kd.R_mono HO241.out (fun _ hk => hk.2)⟩, ⟨by (with_reducible repeat (first | apply Kd.R_alloc | apply Kd.R_drewN | apply Kd.R_drew)); exact Kd.R_mono HO244.out (fun _ hk => hk.2)⟩, ⟨by exact zB HB⟩⟩
     case round =>
      clear H'
      try clear c1
      try clear p2
      try clear c4
      try clear c4b0
      try clear c4b1
      try clear c5
      try clear c5b0
      try clear c5b1
      try clear c6
      try clear c6b0
      try clear c6b1
      try clear p6
      try clear c7
      try clear c7b0
      try clear c7b1
      obtain ⟨x5_1, x7_1, rfl, HA, HK1, HO_5, HO_6, HB⟩ := hrel
      cases gk with
      | zero => exact absurd HA.out (by simp [codewrightref24_Weights.l0])
      | succ k1 =>
       have H := HA.out
       clear HA
       simp only [codewrightref24_Weights.l0] at H
       by_cases c12 : x7_1 < (l1.length : Int)
       ·
        rw [if_pos c12] at H
        have c12b0 : decide (x7_1 < (l1.length : Int)) = true := decide_eq_true c12
        clear c12
        by_cases c13 : 0 ≤ x7_1
        ·
         rw [if_pos c13] at H
         have c13b0 : decide (0 ≤ x7_1) = true := decide_eq_true c13
         clear c13
         replace H := Option.bind_eq_some_iff.mp H
         obtain ⟨t246, A140, H⟩ := H
         replace H : (if 0 ≤ t246 then (if t246 < (x5_1.length : Int) then (codewrightref24_Weights.l0 k1 a0 l1 (x5_1.set (t246 : Int).toNat (wrap64 ((rd x5_1 t246) + 1))) y242 (wrap64 (x7_1 + 1))) else (none)) else (none)) = some r := H
         have A14 := zA A140
         clear A140
         by_cases c15 : 0 ≤ t246
         ·
          rw [if_pos c15] at H
          have c15b0 : decide (0 ≤ t246) = true := decide_eq_true c15
          clear c15
          by_cases c16 : t246 < (x5_1.length : Int)
          ·
           rw [if_pos c16] at H
           have c16b0 : decide (t246 < (x5_1.length : Int)) = true := decide_eq_true c16
           clear c16
           obtain ⟨y248, hy248⟩ : ∃ y_ : List Int, y_ = (x5_1.set (t246 : Int).toNat (wrap64 ((rd x5_1 t246) + 1))) := ⟨_, rfl⟩
           replace H : (codewrightref24_Weights.l0 k1 a0 l1 y248 y242 (wrap64 (x7_1 + 1))) = some r := by first | (rw [hy248]; with_reducible exact H) | (have H := (Option.bind_some _ _).symm.trans H; first | (rw [hy248]; with_reducible exact H) | with_reducible exact H) | (rw [hy248]; exact H) | exact H
           have Ny248 := zA hy248
           clear hy248
           have H' := zA H
           clear H
           have p245 : 0 ≤ (x7_1 : Int) := of_decide_eq_true (by assumption)
           have q245 : x7_1 < (l1.length : Int) := of_decide_eq_true (by assumption)
           obtain ⟨ad245, A245_0, c245_0, e245, hx245_0, hl245_0, hi245_0⟩ := at_L1 HR1.out x7_1 p245 q245
           cases e245
           replace hx245_0 := (HB.out.cell (World.block_lt_of_cell? w _ hx245_0)).trans hx245_0
           have HR245_0 := zA hi245_0
           have HC245_0 := zA hl245_0
           clear hi245_0 hl245_0
           replace p245 := eq_true p245
           replace q245 := eq_true q245
           obtain ⟨Ao18, co18, eo18⟩ := Kd.R_slice HO_6.out
           subst eo18
           go_wp2_with (first | ((with_reducible refine gate_callee (f := 47) rfl ?_); refine goesL_ (some 27) rfl rfl Try.func47 (by kernel_rfl) rfl #[.slice A245_0 (rd_L1 l1 x7_1).length c245_0, .slice Ao18 y242.length co18] rfl (by (try simp only [List.map_toArray, List.map_cons, List.map_nil]); first | done | rfl | (simp only [List.length_drop, List.length_take]; rfl)) ?_; (with_reducible refine (codewrightref24_Distance.calls k1 _ _ (rd_L1 l1 x7_1) _ _ y242 t246 _ ?side1 ?side2 ?side3 ?side4 A14.out).mono ?_); (case side1 => exact zC ((Kd.C_below HR245_0.out HB.out))); (case side2 => exact HC245_0.out); (case side3 => exact zC ((Kd.R_reads' HO_6.out).2.2)); (case side4 => exact (Kd.R_reads' HO_6.out).2.1); rintro e w' ⟨rfl, ⟨nd, rfl⟩⟩; refine ⟨_, rfl, ?_⟩; (try (rw [drewN_self wr]; generalize hq_ : World.drewN wr _ = wr; have n0_ : Aside0 (Kd.R (Kd.int .i64) 3 wr w.heap.size (fun k_ => some k_ ≠ (.slice Ao18 y242.length co18 : Value).ownBlock) v240 x5_1) := ⟨by rw [← hq_]; exact (by exact zR HO_5)⟩; have n1_ : Aside0 (Kd.R (Kd.int .i64) 3 wr w.heap.size (fun k_ => some k_ ≠ (v240 : Value).ownBlock) (.slice Ao18 y242.length co18) y242) := ⟨by rw [← hq_]; exact (by exact zR HO_6)⟩; have n2_ : Aside0 (Below w.heap.size w wr) := ⟨by rw [← hq_]; exact (by exact zB HB)⟩; clear HO_5 HO_6 HB hq_; have HO_5 := n0_; have HO_6 := n1_; have HB := n2_; clear n0_ n1_ n2_)); obtain ⟨Ao19, co19, eo19⟩ := Kd.R_slice HO_5.out; subst eo19; have p247 : 0 ≤ (t246 : Int) := of_decide_eq_true (by assumption); have q247 : t246 < (x5_1.length : Int) := of_decide_eq_true (by assumption); obtain ⟨ad247, e247, hx247_0⟩ := Kd.at_int (Kd.R_reads' HO_5.out).2.2 t246 p247 q247; cases e247; replace p247 := eq_true p247; replace q247 := eq_true q247; have p17 : 0 ≤ (t246 : Int) := of_decide_eq_true (by assumption); have q17 : (t246 : Int) < ((x5_1.length : Int) : Int) := of_decide_eq_true (by assumption); obtain ⟨go17, co17, eo17, gb17, gl17, cl17, HG17⟩ := Kd.R_form HO_5.out (by omega); (first | cases eo17 | (injection eo17 with ea_ en_ ec_; (first | subst ea_ | (injection ea_ with ea_; subst ea_)); subst ec_; clear en_)); have GB17 := zA gb17; have GG17 := zA HG17; clear gb17 gl17 HG17; (first | simp only [add_plain] at hx247_0 | skip); obtain ⟨hx17_0, hf17_0⟩ := Kd.R_celln 0 HO_5.out (t246 : Int) p17 q17; replace p17 := eq_true p17; replace q17 := eq_true q17; obtain ⟨hy20_, hz20_⟩ := Kd.R_celln 0 HO_5.out (t246 : Int) (of_decide_eq_true (by assumption)) (of_decide_eq_true (by assumption)); have HP20 := Kd.R_putg HO_5.out (t246 : Int) (wrap64 ((rd x5_1 t246) + 1))) | ((with_reducible refine gate_store (t := 3) (p := 31) rfl ?_); refine store_event (t := 3) (p := 31) (v := ?vo_w21) (w1 := (wr.setCell ⟨go17, (t246 : Int).toNat, none⟩ (.int .i64 (wrap64 ((rd x5_1 t246) + 1))))) ?hg ?ho ?hn ?hr ?_; (case ho => rfl); (case hg => rfl); (case hn => rfl); (case hr => first | (go_simp; done) | (go_simp; rfl)); intro w21 hw; have hg : wr.grownBy w21 (some go17) := (by rw [hw]; exact HP20.2); have hp_ : Kd.R (Kd.int .i64) 3 w21 w.heap.size (fun k_ => some k_ ≠ (.slice Ao18 y242.length co18 : Value).ownBlock) (.slice (some ⟨go17, 0, none⟩) x5_1.length co19) y248 := (by rw [hw, Ny248.out]; exact HP20.1); clear HP20; replace HO_5 := zA (hp_); replace HO_6 := zA (Kd.R_after (v := (.slice (some ⟨go17, 0, none⟩) x5_1.length co19)) (v1 := (.slice (some ⟨go17, 0, none⟩) x5_1.length co19)) (ok := (fun _ => True)) (by (with_reducible repeat (first | apply Kd.R_alloc | apply Kd.R_drewN | apply Kd.R_drew)); exact Kd.R_mono HO_6.out (fun _ hk => ⟨trivial, hk⟩)) hg (.inl rfl)); replace HB := zA ((by rw [hw]; exact below_set (HB.out) GB17.out : Below w.heap.size w w21)); clear hg hw hp_))
           go_roundg k1
           case measure => have := HK1.out; omega
           case rel => exact ⟨(y248), (wrap64 (x7_1 + 1)), (by first | rfl | (simp; done) | (simp [*]; done)), H', ⟨by have := HK1.out; omega⟩, ⟨by exact zR HO_5⟩, ⟨by (with_reducible repeat (first | apply Kd.R_alloc | apply Kd.R_drewN | apply Kd.R_drew)); exact Kd.R_mono HO_6.out (fun _ hk => hk.2)⟩, ⟨by exact zB HB⟩⟩
          ·
           rw [if_neg c16] at H
           exact absurd H (by simp)
         ·
          rw [if_neg c15] at H
          exact absurd H (by simp)
        ·
         rw [if_neg c13] at H
         exact absurd H (by simp)
       ·
        rw [if_neg c12] at H
        have c12b0 : decide (x7_1 < (l1.length : Int)) = false := decide_eq_false c12
        clear c12
        have H' := zA H
        clear H
        go_wp2
        go_loopg [8, 9] k1 (fun kq v8 v9 w' => ∃ (x8_2 : List (List Int)) (x9_2 : Int), v9 = .int .i64 x9_2 ∧ Aside0 (codewrightref24_Weights.l1 kq a0 x5_1 x8_2 x9_2 = some r) ∧ Aside0 (kq ≤ k1) ∧ Aside0 (Kd.R (Kd.int .i64) 3 w' w.heap.size (fun _ => True) v240 x5_1) ∧ Aside0 (Kd.S (Kd.slice 85 (Kd.int .u32)) 38 w' w.heap.size (fun _ => True) v8 x8_2) ∧ Aside0 (Below w.heap.size w w'))
        case atStart => exact ⟨(([] : List (List Int))), (0), (by first | rfl | (simp; done) | (simp [*]; done)), H', ⟨Nat.le_refl _⟩, ⟨by (with_reducible repeat (first | apply Kd.R_alloc | apply Kd.R_drewN | apply Kd.R_drew)); exact Kd.R_mono HO_5.out (fun _ hk => trivial)⟩, ⟨by first | exact Kd.S_nil _ _ _ _ _ | exact Kd.N_nil _ _ _ _ _ | exact Kd.V_nil _ _ _ _ _ | exact Kd.Q_nil _ _ _ _ _ | exact Kd.R_nil _ _ _ _ _⟩, ⟨by exact zB HB⟩⟩
        case round =>
         clear H'
         try clear c1
         try clear p1
         try clear q1
         try clear hx1
         try clear c2
         try clear p2
         try clear q2
         try clear hx2
         try clear c4
         try clear c4b0
         try clear c4b1
         try clear c5
         try clear c5b0
         try clear c5b1
         try clear c6
         try clear c6b0
         try clear c6b1
         try clear p6
         try clear c7
         try clear c7b0
         try clear c7b1
         try clear c12
         try clear c12b0
         try clear c13
         try clear c13b0
         try clear c15
         try clear c15b0
         try clear c16
         try clear c16b0
         try clear p17
         try clear q17
         try clear hx17
         try clear hf17
         try clear hx17_0
         try clear hx245_0
         try clear hx247_0
         try clear p17
         try clear p2
         try clear p245
         try clear p247
         try clear p6
         try clear q17
         try clear q245
         try clear q247
         obtain ⟨x8_2, x9_2, rfl, HA, HK2, HO_5, HO_8, HB⟩ := hrel
         cases gk with
         | zero => exact absurd HA.out (by simp [codewrightref24_Weights.l1])
         | succ k2 =>
          have H := HA.out
          clear HA
          simp only [codewrightref24_Weights.l1] at H
          by_cases c22 : x9_2 ≤ a0
          ·
           rw [if_pos c22] at H
           have c22b0 : decide (x9_2 ≤ a0) = true := decide_eq_true c22
           clear c22
           by_cases c23 : 0 ≤ x9_2
           ·
            rw [if_pos c23] at H
            have c23b0 : decide (0 ≤ x9_2) = true := decide_eq_true c23
            clear c23
            by_cases c24 : x9_2 < (x5_1.length : Int)
            ·
             rw [if_pos c24] at H
             have c24b0 : decide (x9_2 < (x5_1.length : Int)) = true := decide_eq_true c24
             clear c24
             replace H := Option.bind_eq_some_iff.mp H
             obtain ⟨t250, A250, H⟩ := H
             replace H : (if x8_2.length < 5864062014805 then (codewrightref24_Weights.l1 k2 a0 x5_1 (x8_2 ++ [t250]) (wrap64 (x9_2 + 1))) else (none)) = some r := H
             have A25 := zA A250
             clear A250
             by_cases c26 : x8_2.length < 5864062014805
             ·
              rw [if_pos c26] at H
              have LMc26 := zA c26
              clear c26
              obtain ⟨y253, hy253⟩ : ∃ y_ : List (List Int), y_ = (x8_2 ++ [t250]) := ⟨_, rfl⟩
              replace H : (codewrightref24_Weights.l1 k2 a0 x5_1 y253 (wrap64 (x9_2 + 1))) = some r := by first | (rw [hy253]; with_reducible exact H) | (have H := (Option.bind_some _ _).symm.trans H; first | (rw [hy253]; with_reducible exact H) | with_reducible exact H) | (rw [hy253]; exact H) | exact H
              have Ny253 := zA hy253
              clear hy253
              have H' := zA H
              clear H
              obtain ⟨Ao27, co27, eo27⟩ := Kd.R_slice HO_5.out
              subst eo27
              have p249 : 0 ≤ (x9_2 : Int) := of_decide_eq_true (by assumption)
              have q249 : x9_2 < (x5_1.length : Int) := of_decide_eq_true (by assumption)
              obtain ⟨ad249, e249, hx249_0⟩ := Kd.at_int (Kd.R_reads' HO_5.out).2.2 x9_2 p249 q249
              cases e249
              replace p249 := eq_true p249
              replace q249 := eq_true q249
              go_wp2_with (first | ((with_reducible refine gate_callee (f := 31) rfl ?_); refine goesL_ (some 43) rfl rfl Try.func31 (by kernel_rfl) rfl #[.int .u64 (IntKind.u64.wrap (rd x5_1 x9_2))] rfl (by (try simp only [List.map_toArray, List.map_cons, List.map_nil]); first | done | rfl | (simp only [List.length_drop, List.length_take]; rfl)) ?_; (with_reducible refine (codewrightref01_Of.calls k2 (IntKind.u64.wrap (rd x5_1 x9_2)) t250 _ A25.out).mono ?_); rintro e w28 ⟨v251, rfl, ho0, hb⟩; refine ⟨_, rfl, ?_⟩; replace HO_5 := zA (Kd.R_below (by exact zR HO_5) hb); replace HO_8 := zA (Kd.S_elder' (by (with_reducible repeat (first | apply Kd.S_alloc | apply Kd.S_drewN | apply Kd.S_drew)); exact HO_8.out) (Kd.R_base ho0) hb); have HO252 := zA (Kd.R_lower ho0 (below_size (by exact zB HB))); replace HB := zA (below_step (by exact zB HB) hb); (try clear hb ho0); obtain ⟨Ao30, co30, eo30⟩ := Kd.R_slice HO252.out; subst eo30) | ((with_reducible refine gate_builtin (b := .append) (xs := #[.tmp 37, .tmp 44]) rfl ?_); at_builtin; refine Kd.S_append (Kd.slice 85 (Kd.int .u32)) (w0 := w) w.heap.size rfl (.tmp 37) (.tmp 44) 31 38 (.slice none 0 0) 24 rfl Try.underlying31 info38 rfl (by decide) (by omega) u8 x8_2 t250 [.slice Ao30 t250.length co30] (fun _ => True) (fun k_ => some k_ = (.slice Ao30 t250.length co30 : Value).ownBlock) rfl rfl ?aP (fun k_ hk_ => ((Kd.R_mono (ok' := fun k_ => ((fun _ => True)) k_ ∧ some k_ ≠ (u8 : Value).ownBlock) (Kd.R_apart' (HO252.out) (Kd.S_typed HO_8.out) (by decide)) (fun k_ hk => ⟨trivial, hk.2⟩))).1 k_ hk_.symm) ?aF ?aO ?aB ?aS ?aL ?_; (case aP => exact Kd.M_row (Kd.R_mono (Kd.R_tight rfl (Kd.R_mono (ok' := fun k_ => ((fun _ => True)) k_ ∧ some k_ ≠ (u8 : Value).ownBlock) (Kd.R_apart' (HO252.out) (Kd.S_typed HO_8.out) (by decide)) (fun k_ hk => ⟨trivial, hk.2⟩))) (fun _ h_ => h_))); (case aB => exact (by exact zB HB)); (case aF => exact (fun _ _ => trivial)); (case aO => exact (by (with_reducible repeat (first | apply Kd.S_alloc | apply Kd.S_drewN | apply Kd.S_drew)); exact Kd.S_mono HO_8.out (fun k_ hk => ⟨trivial, fun e_ => hk.2 e_⟩))); (case aS => exact (below_size (by exact zB HB))); (case aL => have := LMc26.out; omega); intro v254 w29 ho hb hg hat; rw [← Ny253.out] at ho; have n0_ := zA (Kd.R_over' (by exact zR HO_5) (Kd.S_typed (by (with_reducible repeat (first | apply Kd.S_alloc | apply Kd.S_drewN | apply Kd.S_drew)); exact HO_8.out)) (by decide) hg); have n1_ := zA (hb); have n2_ := zA (ho); clear HO_5; clear HB; clear HO_8; clear HO252; have HO_5 := n0_; have HB := n1_; have HO255 := n2_; clear n0_ n1_ n2_; clear ho hb hg hat))
              go_roundg k2
              case measure => have := HK1.out; have := HK2.out; omega
              case rel => exact ⟨(y253), (wrap64 (x9_2 + 1)), (by first | rfl | (simp; done) | (simp [*]; done)), H', ⟨by have := HK1.out; have := HK2.out; omega⟩, ⟨by exact zR HO_5⟩, ⟨by (with_reducible repeat (first | apply Kd.S_alloc | apply Kd.S_drewN | apply Kd.S_drew)); exact HO255.out⟩, ⟨by exact zB HB⟩⟩
             ·
              rw [if_neg c26] at H
              exact absurd H (by simp)
            ·
             rw [if_neg c24] at H
             exact absurd H (by simp)
           ·
            rw [if_neg c23] at H
            exact absurd H (by simp)
          ·
           rw [if_neg c22] at H
           have c22b0 : decide (x9_2 ≤ a0) = false := decide_eq_false c22
           clear c22
           obtain rfl := Option.some.inj H
           go_wp2
           go_ret
           exact ⟨_, by first | rfl | (simp [errW_none, errW_some] <;> rfl) | (simp only [← hji3]; first | rfl | (simp [errW_none, errW_some] <;> rfl)) | (simp [*, errW_none, errW_some] <;> rfl), by (with_reducible repeat (first | apply Kd.S_alloc | apply Kd.S_drewN | apply Kd.S_drew)); exact HO_8.out, by exact zB HB⟩
    ·
     rw [if_neg c7] at H
     exact absurd H (by simp)
   ·
    rw [if_neg c6] at H
    exact absurd H (by simp)
  ·
   rw [if_neg c5] at H
   exact absurd H (by simp)
 ·
  rw [if_neg c4] at H
  exact absurd H (by simp)
end Go.Proofs.Ytpjpbhjpobdenaa.PBoundsLinear
