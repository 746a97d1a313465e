/- A part of the print of this row, cut down to what the row uses. -/
import Derived.Test.YtpjpbhjpobdenaaQChannelPolynomialsx0
import Derived.Test.YtpjpbhjpobdenaaQChannelPolynomialsx7
import Derived.Test.YtpjpbhjpobdenaaQChannelPolynomialsWSq
-- printed by a scratch copy of the print, turned (wip/tools/turn_print.py)
namespace Go.Proofs.Ytpjpbhjpobdenaa.PNat
open Go.RowKit Go.Proofs.YtpjpbhjpobdenaaW.PrintWords Go.Proofs.YtpjpbhjpobdenaaW.PrintLast Go.Proofs.YtpjpbhjpobdenaaW.PrintMore
attribute [local go_sem] max2_int min2_int max_two min_two max_three min_three max_four min_four   -- for this text's walks alone
set_option linter.unusedVariables false
set_option linter.unusedSimpArgs false
/-! ### codewrightref01_Add: function 61 -/
mutual
def codewrightref01_Add.l0 : Nat → List Int → List Int → List Int → Int → Int → Option (List Int)
 | 0, _, _, _, _, _ => none
 | k + 1, x0, x1, x5, x6, x7 => if x7 < (x0.length : Int) then (codewrightref01_Add.j1 k x0 x1 x5 x6 x7 true) else (if x7 < (x1.length : Int) then (codewrightref01_Add.j1 k x0 x1 x5 x6 x7 true) else (codewrightref01_Add.j1 k x0 x1 x5 x6 x7 (decide (x6 > 0))))
def codewrightref01_Add.j1 : Nat → List Int → List Int → List Int → Int → Int → Bool → Option (List Int)
 | 0, _, _, _, _, _, _ => none
 | k + 1, x0, x1, x5, x6, x7, x22 => if x22 = true then ((codewrightref01_limb.f x0 x7).bind fun t407 => ((codewrightref01_limb.f x1 x7).bind fun t408 => (if x5.length < 35184372088832 then (codewrightref01_Add.l0 k x0 x1 (x5 ++ [(Int.tmod (IntKind.u64.wrap ((IntKind.u64.wrap (t407 + t408)) + x6)) 4294967296) % 4294967296]) (IntKind.u64.wrap (Int.tdiv (IntKind.u64.wrap ((IntKind.u64.wrap (t407 + t408)) + x6)) 4294967296)) (wrap64 (x7 + 1))) else (none)))) else ((codewrightref01_Trim.f k x5).bind fun t412 => (some t412))
end
def codewrightref01_Add.f (k : Nat) (l0 : List Int) (l1 : List Int) : Option (List Int) := codewrightref01_Add.l0 k l0 l1 ([] : List Int) 0 0
set_option maxHeartbeats 8000000 in
set_option maxRecDepth 100000 in
theorem codewrightref01_Add.calls (k : Nat) (A0 : Option Addr) (c0 : Nat) (l0 : List Int) (A1 : Option Addr) (c1 : Nat) (l1 : List Int) (r : List Int) (w : World) (hr0 : Kd.C (Kd.int .u32) w A0 l0.length l0) (hc0 : l0.length ≤ c0) (hr1 : Kd.C (Kd.int .u32) w A1 l1.length l1) (hc1 : l1.length ≤ c1) (h : codewrightref01_Add.f k l0 l1 = some r) :
  Calls Try.prog 61 #[.slice A0 l0.length c0, .slice A1 l1.length c1] w fun e w' => ∃ v0_ : Value, e = .returned (v0_) ∧ Kd.R (Kd.int .u32) 85 w' w.heap.size (fun _ => True) v0_ r ∧ Below w.heap.size w w' := by
 have HR0 := zA hr0
 have HC0 := zA hc0
 clear hr0 hc0
 have HR1 := zA hr1
 have HC1 := zA hc1
 clear hr1 hc1
 have HB := zA (Below.refl w.heap.size w)
 have H : (codewrightref01_Add.l0 k l0 l1 ([] : List Int) 0 0) = some r := h
 clear h
 have H' := zA H
 clear H
 go_enter Try.func61, Try.ntmps61
 go_wp2
 go_loopg [5, 6, 7] k (fun kq v5 v6 v7 w' => ∃ (x5_1 : List Int) (x6_1 : Int) (x7_1 : Int), v6 = .int .u64 x6_1 ∧ v7 = .int .i64 x7_1 ∧ Aside0 (codewrightref01_Add.l0 kq l0 l1 x5_1 x6_1 x7_1 = some r) ∧ Aside0 (kq ≤ k) ∧ Aside0 (Kd.R (Kd.int .u32) 85 w' w.heap.size (fun _ => True) v5 x5_1) ∧ Aside0 (Below w.heap.size w w'))
 case atStart => exact ⟨(([] : List Int)), (0), (0), (by first | rfl | (simp; done) | (simp [*]; done)), (by first | rfl | (simp; done) | (simp [*]; done)), H', ⟨Nat.le_refl _⟩, ⟨by first | exact Kd.R_nil _ _ _ _ _ | exact Kd.N_nil _ _ _ _ _ | exact Kd.V_nil _ _ _ _ _ | exact Kd.Q_nil _ _ _ _ _ | exact Kd.S_nil _ _ _ _ _⟩, ⟨by exact zB HB⟩⟩
 case round =>
  clear H'
  try clear c1
  try clear p2
  obtain ⟨x5_1, x6_1, x7_1, rfl, rfl, HA, HK1, HO_5, HB⟩ := hrel
  cases gk with
  | zero => exact absurd HA.out (by simp [codewrightref01_Add.l0])
  | succ k1 =>
   have H := HA.out
   clear HA
   simp only [codewrightref01_Add.l0] at H
   have HC3 := zA H
   clear H
   go_upto_region 4 with (fail)
   go_cut [22] (fun v22 wc => ∃ (kq : Nat) (x22_2 : Bool), v22 = .bool x22_2 ∧ Aside0 (codewrightref01_Add.j1 kq l0 l1 x5_1 x6_1 x7_1 x22_2 = some r) ∧ Aside0 (kq ≤ k1) ∧ Aside0 (Kd.R (Kd.int .u32) 85 wc w.heap.size (fun _ => True) u5 x5_1) ∧ Aside0 (Below w.heap.size w wc))
   case first =>
    have H := HC3.out
    clear HC3
    by_cases c4 : x7_1 < (l0.length : Int)
    ·
     rw [if_pos c4] at H
     have c4b0 : decide (x7_1 < (l0.length : Int)) = true := decide_eq_true c4
     clear c4
     (first | rw [c4b0] | (simp only [i64_w, i32_w]; rw [c4b0]) | rw [c4b1] | rw [c4b2] | skip)
     have H' := zA H
     clear H
     go_wp2
     go_meet
     case rel => exact ⟨_, (true), (by first | rfl | (simp; done) | (simp [*]; done)), H', ⟨by have := HK1.out; first | omega | exact Nat.le_refl _⟩, ⟨by exact zR HO_5⟩, ⟨by exact zB HB⟩⟩
    ·
     rw [if_neg c4] at H
     have c4b0 : decide (x7_1 < (l0.length : Int)) = false := decide_eq_false c4
     clear c4
     (first | rw [c4b0] | (simp only [i64_w, i32_w]; rw [c4b0]) | rw [c4b1] | rw [c4b2] | skip)
     by_cases c5 : x7_1 < (l1.length : Int)
     ·
      rw [if_pos c5] at H
      have c5b0 : decide (x7_1 < (l1.length : Int)) = true := decide_eq_true c5
      clear c5
      have H' := zA H
      clear H
      go_wp2
      go_meet
      case rel => exact ⟨_, (true), (by first | rfl | (simp; done) | (simp [*]; done)), H', ⟨by have := HK1.out; first | omega | exact Nat.le_refl _⟩, ⟨by exact zR HO_5⟩, ⟨by exact zB HB⟩⟩
     ·
      rw [if_neg c5] at H
      have c5b0 : decide (x7_1 < (l1.length : Int)) = false := decide_eq_false c5
      clear c5
      have H' := zA H
      clear H
      go_wp2
      go_meet
      case rel => exact ⟨_, (decide (x6_1 > 0)), (by first | rfl | (simp; done) | (simp [*]; done)), H', ⟨by have := HK1.out; first | omega | exact Nat.le_refl _⟩, ⟨by exact zR HO_5⟩, ⟨by exact zB HB⟩⟩
   case rest =>
    clear HC3
    try clear c1
    try clear p2
    try clear c4
    try clear c4b0
    try clear c5
    try clear c5b0
    try clear p2
    obtain ⟨kq, x22_2, rfl, HA, HJ2, HO_5, HB⟩ := hcut
    cases kq with
    | zero => exact absurd HA.out (by simp [codewrightref01_Add.j1])
    | succ kj2 =>
     have H := HA.out
     clear HA
     simp only [codewrightref01_Add.j1] at H
     by_cases c6 : x22_2 = true
     ·
      subst c6
      have H1 : ((codewrightref01_limb.f l0 x7_1).bind fun t407 => ((codewrightref01_limb.f l1 x7_1).bind fun t408 => (if x5_1.length < 35184372088832 then (codewrightref01_Add.l0 kj2 l0 l1 (x5_1 ++ [(Int.tmod (IntKind.u64.wrap ((IntKind.u64.wrap (t407 + t408)) + x6_1)) 4294967296) % 4294967296]) (IntKind.u64.wrap (Int.tdiv (IntKind.u64.wrap ((IntKind.u64.wrap (t407 + t408)) + x6_1)) 4294967296)) (wrap64 (x7_1 + 1))) else (none)))) = some r := by rw [if_pos rfl] at H; exact H
      clear H
      have H := H1
      clear H1
      replace H := Option.bind_eq_some_iff.mp H
      obtain ⟨t407, A70, H⟩ := H
      replace H : ((codewrightref01_limb.f l1 x7_1).bind fun t408 => (if x5_1.length < 35184372088832 then (codewrightref01_Add.l0 kj2 l0 l1 (x5_1 ++ [(Int.tmod (IntKind.u64.wrap ((IntKind.u64.wrap (t407 + t408)) + x6_1)) 4294967296) % 4294967296]) (IntKind.u64.wrap (Int.tdiv (IntKind.u64.wrap ((IntKind.u64.wrap (t407 + t408)) + x6_1)) 4294967296)) (wrap64 (x7_1 + 1))) else (none))) = some r := H
      have A7 := zA A70
      clear A70
      replace H := Option.bind_eq_some_iff.mp H
      obtain ⟨t408, A80, H⟩ := H
      replace H : (if x5_1.length < 35184372088832 then (codewrightref01_Add.l0 kj2 l0 l1 (x5_1 ++ [(Int.tmod (IntKind.u64.wrap ((IntKind.u64.wrap (t407 + t408)) + x6_1)) 4294967296) % 4294967296]) (IntKind.u64.wrap (Int.tdiv (IntKind.u64.wrap ((IntKind.u64.wrap (t407 + t408)) + x6_1)) 4294967296)) (wrap64 (x7_1 + 1))) else (none)) = some r := H
      have A8 := zA A80
      clear A80
      by_cases c9 : x5_1.length < 35184372088832
      ·
       rw [if_pos c9] at H
       have LMc9 := zA c9
       clear c9
       obtain ⟨y409, hy409⟩ : ∃ y_ : List Int, y_ = (x5_1 ++ [(Int.tmod (IntKind.u64.wrap ((IntKind.u64.wrap (t407 + t408)) + x6_1)) 4294967296) % 4294967296]) := ⟨_, rfl⟩
       replace H : (codewrightref01_Add.l0 kj2 l0 l1 y409 (IntKind.u64.wrap (Int.tdiv (IntKind.u64.wrap ((IntKind.u64.wrap (t407 + t408)) + x6_1)) 4294967296)) (wrap64 (x7_1 + 1))) = some r := by first | (rw [hy409]; with_reducible exact H) | (have H := (Option.bind_some _ _).symm.trans H; first | (rw [hy409]; with_reducible exact H) | with_reducible exact H) | (rw [hy409]; exact H) | exact H
       have Ny409 := zA hy409
       clear hy409
       have H' := zA H
       clear H
       go_wp2_with (first | ((with_reducible refine gate_callee (f := 87) rfl ?_); refine goesL_ (some 27) rfl rfl Try.func87 (by kernel_rfl) rfl #[.slice A0 l0.length c0, .int .i64 x7_1] rfl (by (try simp only [List.map_toArray, List.map_cons, List.map_nil]); first | done | rfl | (simp only [List.length_drop, List.length_take]; rfl)) ?_; (with_reducible refine (codewrightref01_limb.calls _ _ l0 x7_1 t407 _ ?side1 ?side2 A7.out).mono ?_); (case side1 => exact zC ((Kd.C_below HR0.out HB.out))); (case side2 => exact HC0.out); rintro e w' ⟨rfl, ⟨nd, rfl⟩⟩; refine ⟨_, rfl, ?_⟩) | ((with_reducible refine gate_callee (f := 87) rfl ?_); refine goesL_ (some 30) rfl rfl Try.func87 (by kernel_rfl) rfl #[.slice A1 l1.length c1, .int .i64 x7_1] rfl (by (try simp only [List.map_toArray, List.map_cons, List.map_nil]); first | done | rfl | (simp only [List.length_drop, List.length_take]; rfl)) ?_; (with_reducible refine (codewrightref01_limb.calls _ _ l1 x7_1 t408 _ ?side1 ?side2 A8.out).mono ?_); (case side1 => exact (Kd.C_below HR1.out (by exact zB HB))); (case side2 => exact HC1.out); rintro e w' ⟨rfl, ⟨nd, rfl⟩⟩; refine ⟨_, rfl, ?_⟩) | ((with_reducible refine gate_builtin (b := .append) (xs := #[.tmp 34, .tmp 38]) rfl ?_); (try (refine gate_guard (by rfl) ?_; dsimp only)); at_builtin; refine Kd.R_append (Kd.int .u32) (w0 := w) w.heap.size rfl (.tmp 34) (.tmp 38) 38 85 (.int .u32 0) 4 rfl Try.underlying38 info85 rfl (by decide) (by omega) u5 x5_1 ((Int.tmod (IntKind.u64.wrap ((IntKind.u64.wrap (t407 + t408)) + x6_1)) 4294967296) % 4294967296) [.int .u32 ((Int.tmod (IntKind.u64.wrap ((IntKind.u64.wrap (t407 + t408)) + x6_1)) 4294967296) % 4294967296)] (fun _ => True) (fun _ => False) rfl rfl ?aP (fun _ hk => hk.elim) ?aF ?aO ?aB ?aS ?aL ?_; (case aP => exact rfl); (case aB => exact (by exact zB HB)); (case aF => exact (fun _ _ => trivial)); (case aO => exact (by exact zR HO_5)); (case aS => exact (below_size (by exact zB HB))); (case aL => have := LMc9.out; omega); intro v410 w10 ho hb hg hat; rw [← Ny409.out] at ho; have n0_ := zA (hb); have n1_ := zA (ho); clear HB; clear HO_5; have HB := n0_; have HO411 := n1_; clear n0_ n1_; clear ho hb hg hat))
       go_roundg kj2
       case measure => have := HK1.out; have := HJ2.out; omega
       case rel => exact ⟨(y409), (IntKind.u64.wrap (Int.tdiv (IntKind.u64.wrap ((IntKind.u64.wrap (t407 + t408)) + x6_1)) 4294967296)), (wrap64 (x7_1 + 1)), (by first | rfl | (simp; done) | (simp [*]; done)), (by first | rfl | (simp; done) | (simp [*]; done)), H', ⟨by have := HK1.out; have := HJ2.out; omega⟩, ⟨by exact zR HO411⟩, ⟨by exact zB HB⟩⟩
      ·
       rw [if_neg c9] at H
       exact absurd H (by simp)
     ·
      replace c6 := Bool.eq_false_iff.mpr c6
      subst c6
      have H1 : ((codewrightref01_Trim.f kj2 x5_1).bind fun t412 => (some t412)) = some r := by rw [if_neg (show ¬ (false = true) by decide)] at H; exact H
      clear H
      have H := H1
      clear H1
      replace H := Option.bind_eq_some_iff.mp H
      obtain ⟨t412, A110, H⟩ := H
      replace H : (some t412) = some r := H
      have A11 := zA A110
      clear A110
      obtain rfl := Option.some.inj H
      obtain ⟨Ao12, co12, eo12⟩ := Kd.R_slice HO_5.out
      subst eo12
      go_wp2_with (first | ((with_reducible refine gate_callee (f := 65) rfl ?_); refine goesL_ (some 43) rfl rfl Try.func65 (by kernel_rfl) rfl #[.slice Ao12 x5_1.length co12] rfl (by (try simp only [List.map_toArray, List.map_cons, List.map_nil]); first | done | rfl | (simp only [List.length_drop, List.length_take]; rfl)) ?_; (with_reducible refine (codewrightref01_Trim.calls kj2 _ _ x5_1 t412 _ ?side1 ?side2 A11.out).mono ?_); (case side1 => exact zC ((Kd.R_reads' HO_5.out).2.2)); (case side2 => exact (Kd.R_reads' HO_5.out).2.1); rintro e w13 ⟨v413, rfl, ho0, hb⟩; refine ⟨_, rfl, ?_⟩; have HO414 := zA (Kd.R_lower (Kd.R_new' ho0 (Kd.R_lt (by exact zR HO_5))) (below_size (by exact zB HB))); replace HO_5 := zA (Kd.R_elder' (by exact zR HO_5) (Kd.R_base ho0) hb); replace HB := zA (below_step (by exact zB HB) hb); (try clear hb ho0)))
      go_ret
      exact ⟨_, by first | rfl | (simp [errW_none, errW_some] <;> rfl) | (simp [*, errW_none, errW_some] <;> rfl), by (with_reducible repeat (first | apply Kd.R_alloc | apply Kd.R_drewN | apply Kd.R_drew)); exact Kd.R_mono HO414.out (fun _ hk => trivial), by exact zB HB⟩
/-! ### codewrightref01_Sub: function 63 -/
def codewrightref01_Sub.l0 : Nat → List Int → List Int → List Int → Int → Int → Option (List Int)
 | 0, _, _, _, _, _ => none
 | k + 1, x0, x1, x5, x6, x7 => if x7 < (x0.length : Int) then ((codewrightref01_limb.f x0 x7).bind fun t415 => ((codewrightref01_limb.f x1 x7).bind fun t416 => (if x5.length < 35184372088832 then (codewrightref01_Sub.l0 k x0 x1 (x5 ++ [(Int.tmod (IntKind.u64.wrap ((IntKind.u64.wrap ((IntKind.u64.wrap (t415 + 4294967296)) - t416)) - x6)) 4294967296) % 4294967296]) (IntKind.u64.wrap (1 - (IntKind.u64.wrap (Int.tdiv (IntKind.u64.wrap ((IntKind.u64.wrap ((IntKind.u64.wrap (t415 + 4294967296)) - t416)) - x6)) 4294967296)))) (wrap64 (x7 + 1))) else (none)))) else ((codewrightref01_Trim.f k x5).bind fun t420 => (some t420))
def codewrightref01_Sub.f (k : Nat) (l0 : List Int) (l1 : List Int) : Option (List Int) := codewrightref01_Sub.l0 k l0 l1 ([] : List Int) 0 0
set_option maxHeartbeats 8000000 in
set_option maxRecDepth 100000 in
theorem codewrightref01_Sub.calls (k : Nat) (A0 : Option Addr) (c0 : Nat) (l0 : List Int) (A1 : Option Addr) (c1 : Nat) (l1 : List Int) (r : List Int) (w : World) (hr0 : Kd.C (Kd.int .u32) w A0 l0.length l0) (hc0 : l0.length ≤ c0) (hr1 : Kd.C (Kd.int .u32) w A1 l1.length l1) (hc1 : l1.length ≤ c1) (h : codewrightref01_Sub.f k l0 l1 = some r) :
  Calls Try.prog 63 #[.slice A0 l0.length c0, .slice A1 l1.length c1] w fun e w' => ∃ v0_ : Value, e = .returned (v0_) ∧ Kd.R (Kd.int .u32) 85 w' w.heap.size (fun _ => True) v0_ r ∧ Below w.heap.size w w' := by
 have HR0 := zA hr0
 have HC0 := zA hc0
 clear hr0 hc0
 have HR1 := zA hr1
 have HC1 := zA hc1
 clear hr1 hc1
 have HB := zA (Below.refl w.heap.size w)
 have H : (codewrightref01_Sub.l0 k l0 l1 ([] : List Int) 0 0) = some r := h
 clear h
 have H' := zA H
 clear H
 go_enter Try.func63, Try.ntmps63
 go_wp2
 go_loopg [5, 6, 7] k (fun kq v5 v6 v7 w' => ∃ (x5_1 : List Int) (x6_1 : Int) (x7_1 : Int), v6 = .int .u64 x6_1 ∧ v7 = .int .i64 x7_1 ∧ Aside0 (codewrightref01_Sub.l0 kq l0 l1 x5_1 x6_1 x7_1 = some r) ∧ Aside0 (kq ≤ k) ∧ Aside0 (Kd.R (Kd.int .u32) 85 w' w.heap.size (fun _ => True) v5 x5_1) ∧ Aside0 (Below w.heap.size w w'))
 case atStart => exact ⟨(([] : List Int)), (0), (0), (by first | rfl | (simp; done) | (simp [*]; done)), (by first | rfl | (simp; done) | (simp [*]; done)), H', ⟨Nat.le_refl _⟩, ⟨by first | exact Kd.R_nil _ _ _ _ _ | exact Kd.N_nil _ _ _ _ _ | exact Kd.V_nil _ _ _ _ _ | exact Kd.Q_nil _ _ _ _ _ | exact Kd.S_nil _ _ _ _ _⟩, ⟨by exact zB HB⟩⟩
 case round =>
  clear H'
  try clear c1
  try clear p2
  obtain ⟨x5_1, x6_1, x7_1, rfl, rfl, HA, HK1, HO_5, HB⟩ := hrel
  cases gk with
  | zero => exact absurd HA.out (by simp [codewrightref01_Sub.l0])
  | succ k1 =>
   have H := HA.out
   clear HA
   simp only [codewrightref01_Sub.l0] at H
   by_cases c3 : x7_1 < (l0.length : Int)
   ·
    rw [if_pos c3] at H
    have c3b0 : decide (x7_1 < (l0.length : Int)) = true := decide_eq_true c3
    clear c3
    replace H := Option.bind_eq_some_iff.mp H
    obtain ⟨t415, A40, H⟩ := H
    replace H : ((codewrightref01_limb.f l1 x7_1).bind fun t416 => (if x5_1.length < 35184372088832 then (codewrightref01_Sub.l0 k1 l0 l1 (x5_1 ++ [(Int.tmod (IntKind.u64.wrap ((IntKind.u64.wrap ((IntKind.u64.wrap (t415 + 4294967296)) - t416)) - x6_1)) 4294967296) % 4294967296]) (IntKind.u64.wrap (1 - (IntKind.u64.wrap (Int.tdiv (IntKind.u64.wrap ((IntKind.u64.wrap ((IntKind.u64.wrap (t415 + 4294967296)) - t416)) - x6_1)) 4294967296)))) (wrap64 (x7_1 + 1))) else (none))) = some r := H
    have A4 := zA A40
    clear A40
    replace H := Option.bind_eq_some_iff.mp H
    obtain ⟨t416, A50, H⟩ := H
    replace H : (if x5_1.length < 35184372088832 then (codewrightref01_Sub.l0 k1 l0 l1 (x5_1 ++ [(Int.tmod (IntKind.u64.wrap ((IntKind.u64.wrap ((IntKind.u64.wrap (t415 + 4294967296)) - t416)) - x6_1)) 4294967296) % 4294967296]) (IntKind.u64.wrap (1 - (IntKind.u64.wrap (Int.tdiv (IntKind.u64.wrap ((IntKind.u64.wrap ((IntKind.u64.wrap (t415 + 4294967296)) - t416)) - x6_1)) 4294967296)))) (wrap64 (x7_1 + 1))) else (none)) = some r := H
    have A5 := zA A50
    clear A50
    by_cases c6 : x5_1.length < 35184372088832
    ·
     rw [if_pos c6] at H
     have LMc6 := zA c6
     clear c6
     obtain ⟨y417, hy417⟩ : ∃ y_ : List Int, y_ = (x5_1 ++ [(Int.tmod (IntKind.u64.wrap ((IntKind.u64.wrap ((IntKind.u64.wrap (t415 + 4294967296)) - t416)) - x6_1)) 4294967296) % 4294967296]) := ⟨_, rfl⟩
     replace H : (codewrightref01_Sub.l0 k1 l0 l1 y417 (IntKind.u64.wrap (1 - (IntKind.u64.wrap (Int.tdiv (IntKind.u64.wrap ((IntKind.u64.wrap ((IntKind.u64.wrap (t415 + 4294967296)) - t416)) - x6_1)) 4294967296)))) (wrap64 (x7_1 + 1))) = some r := by first | (rw [hy417]; with_reducible exact H) | (have H := (Option.bind_some _ _).symm.trans H; first | (rw [hy417]; with_reducible exact H) | with_reducible exact H) | (rw [hy417]; exact H) | exact H
     have Ny417 := zA hy417
     clear hy417
     have H' := zA H
     clear H
     go_wp2_with (first | ((with_reducible refine gate_callee (f := 87) rfl ?_); refine goesL_ (some 17) rfl rfl Try.func87 (by kernel_rfl) rfl #[.slice A0 l0.length c0, .int .i64 x7_1] rfl (by (try simp only [List.map_toArray, List.map_cons, List.map_nil]); first | done | rfl | (simp only [List.length_drop, List.length_take]; rfl)) ?_; (with_reducible refine (codewrightref01_limb.calls _ _ l0 x7_1 t415 _ ?side1 ?side2 A4.out).mono ?_); (case side1 => exact zC ((Kd.C_below HR0.out HB.out))); (case side2 => exact HC0.out); rintro e w' ⟨rfl, ⟨nd, rfl⟩⟩; refine ⟨_, rfl, ?_⟩) | ((with_reducible refine gate_callee (f := 87) rfl ?_); refine goesL_ (some 21) rfl rfl Try.func87 (by kernel_rfl) rfl #[.slice A1 l1.length c1, .int .i64 x7_1] rfl (by (try simp only [List.map_toArray, List.map_cons, List.map_nil]); first | done | rfl | (simp only [List.length_drop, List.length_take]; rfl)) ?_; (with_reducible refine (codewrightref01_limb.calls _ _ l1 x7_1 t416 _ ?side1 ?side2 A5.out).mono ?_); (case side1 => exact (Kd.C_below HR1.out (by exact zB HB))); (case side2 => exact HC1.out); rintro e w' ⟨rfl, ⟨nd, rfl⟩⟩; refine ⟨_, rfl, ?_⟩) | ((with_reducible refine gate_builtin (b := .append) (xs := #[.tmp 25, .tmp 29]) rfl ?_); at_builtin; refine Kd.R_append (Kd.int .u32) (w0 := w) w.heap.size rfl (.tmp 25) (.tmp 29) 38 85 (.int .u32 0) 4 rfl Try.underlying38 info85 rfl (by decide) (by omega) u5 x5_1 ((Int.tmod (IntKind.u64.wrap ((IntKind.u64.wrap ((IntKind.u64.wrap (t415 + 4294967296)) - t416)) - x6_1)) 4294967296) % 4294967296) [.int .u32 ((Int.tmod (IntKind.u64.wrap ((IntKind.u64.wrap ((IntKind.u64.wrap (t415 + 4294967296)) - t416)) - x6_1)) 4294967296) % 4294967296)] (fun _ => True) (fun _ => False) rfl rfl ?aP (fun _ hk => hk.elim) ?aF ?aO ?aB ?aS ?aL ?_; (case aP => exact rfl); (case aB => exact (by exact zB HB)); (case aF => exact (fun _ _ => trivial)); (case aO => exact (by exact zR HO_5)); (case aS => exact (below_size (by exact zB HB))); (case aL => have := LMc6.out; omega); intro v418 w7 ho hb hg hat; rw [← Ny417.out] at ho; have n0_ := zA (hb); have n1_ := zA (ho); clear HB; clear HO_5; have HB := n0_; have HO419 := n1_; clear n0_ n1_; clear ho hb hg hat))
     go_roundg k1
     case measure => have := HK1.out; omega
     case rel => exact ⟨(y417), (IntKind.u64.wrap (1 - (IntKind.u64.wrap (Int.tdiv (IntKind.u64.wrap ((IntKind.u64.wrap ((IntKind.u64.wrap (t415 + 4294967296)) - t416)) - x6_1)) 4294967296)))), (wrap64 (x7_1 + 1)), (by first | rfl | (simp; done) | (simp [*]; done)), (by first | rfl | (simp; done) | (simp [*]; done)), H', ⟨by have := HK1.out; omega⟩, ⟨by exact zR HO419⟩, ⟨by exact zB HB⟩⟩
    ·
     rw [if_neg c6] at H
     exact absurd H (by simp)
   ·
    rw [if_neg c3] at H
    have c3b0 : decide (x7_1 < (l0.length : Int)) = false := decide_eq_false c3
    clear c3
    replace H := Option.bind_eq_some_iff.mp H
    obtain ⟨t420, A80, H⟩ := H
    replace H : (some t420) = some r := H
    have A8 := zA A80
    clear A80
    obtain rfl := Option.some.inj H
    obtain ⟨Ao9, co9, eo9⟩ := Kd.R_slice HO_5.out
    subst eo9
    go_wp2_with (first | ((with_reducible refine gate_callee (f := 65) rfl ?_); refine goesL_ (some 35) rfl rfl Try.func65 (by kernel_rfl) rfl #[.slice Ao9 x5_1.length co9] rfl (by (try simp only [List.map_toArray, List.map_cons, List.map_nil]); first | done | rfl | (simp only [List.length_drop, List.length_take]; rfl)) ?_; (with_reducible refine (codewrightref01_Trim.calls k1 _ _ x5_1 t420 _ ?side1 ?side2 A8.out).mono ?_); (case side1 => exact zC ((Kd.R_reads' HO_5.out).2.2)); (case side2 => exact (Kd.R_reads' HO_5.out).2.1); rintro e w10 ⟨v421, rfl, ho0, hb⟩; refine ⟨_, rfl, ?_⟩; have HO422 := zA (Kd.R_lower (Kd.R_new' ho0 (Kd.R_lt (by exact zR HO_5))) (below_size (by exact zB HB))); replace HO_5 := zA (Kd.R_elder' (by exact zR HO_5) (Kd.R_base ho0) hb); replace HB := zA (below_step (by exact zB HB) hb); (try clear hb ho0)))
    go_ret
    exact ⟨_, by first | rfl | (simp [errW_none, errW_some] <;> rfl) | (simp [*, errW_none, errW_some] <;> rfl), by (with_reducible repeat (first | apply Kd.R_alloc | apply Kd.R_drewN | apply Kd.R_drew)); exact Kd.R_mono HO422.out (fun _ hk => trivial), by exact zB HB⟩
/-! ### codewrightref01_Mul: function 33 -/
mutual
def codewrightref01_Mul.l0 : Nat → List Int → List Int → List Int → Int → Option (List Int)
 | 0, _, _, _, _ => none
 | k + 1, x0, x1, x5, x6 => if x6 < (x0.length : Int) then (codewrightref01_Mul.l1 k x0 x1 x5 x6 0 0) else ((codewrightref01_Trim.f k x5).bind fun t426 => (some t426))
def codewrightref01_Mul.l1 : Nat → List Int → List Int → List Int → Int → Int → Int → Option (List Int)
 | 0, _, _, _, _, _, _ => none
 | k + 1, x0, x1, x5, x6, x7, x8 => if x8 < (x1.length : Int) then (if 0 ≤ x6 then (if x6 < (x0.length : Int) then (if 0 ≤ x8 then (if 0 ≤ (wrap64 (x6 + x8)) then (if (wrap64 (x6 + x8)) < (x5.length : Int) then (codewrightref01_Mul.l1 k x0 x1 (x5.set ((wrap64 (x6 + x8)) : Int).toNat ((Int.tmod (IntKind.u64.wrap ((IntKind.u64.wrap ((IntKind.u64.wrap ((IntKind.u64.wrap (rd x0 x6)) * (IntKind.u64.wrap (rd x1 x8)))) + (IntKind.u64.wrap (rd x5 (wrap64 (x6 + x8)))))) + x7)) 4294967296) % 4294967296)) x6 (IntKind.u64.wrap (Int.tdiv (IntKind.u64.wrap ((IntKind.u64.wrap ((IntKind.u64.wrap ((IntKind.u64.wrap (rd x0 x6)) * (IntKind.u64.wrap (rd x1 x8)))) + (IntKind.u64.wrap (rd x5 (wrap64 (x6 + x8)))))) + x7)) 4294967296)) (wrap64 (x8 + 1))) else (none)) else (none)) else (none)) else (none)) else (none)) else (if 0 ≤ (wrap64 (x6 + (x1.length : Int))) then (if (wrap64 (x6 + (x1.length : Int))) < (x5.length : Int) then (codewrightref01_Mul.l0 k x0 x1 (x5.set ((wrap64 (x6 + (x1.length : Int))) : Int).toNat ((x7) % 4294967296)) (wrap64 (x6 + 1))) else (none)) else (none))
end
def codewrightref01_Mul.f (k : Nat) (l0 : List Int) (l1 : List Int) : Option (List Int) := if 0 ≤ (wrap64 ((l0.length : Int) + (l1.length : Int))) then (if (wrap64 ((l0.length : Int) + (l1.length : Int)) : Int).toNat ≤ 70368744177664 then (codewrightref01_Mul.l0 k l0 l1 (List.replicate (wrap64 ((l0.length : Int) + (l1.length : Int)) : Int).toNat 0) 0) else (none)) else (none)
set_option maxHeartbeats 8000000 in
set_option maxRecDepth 100000 in
theorem codewrightref01_Mul.calls (k : Nat) (A0 : Option Addr) (c0 : Nat) (l0 : List Int) (A1 : Option Addr) (c1 : Nat) (l1 : List Int) (r : List Int) (w : World) (hr0 : Kd.C (Kd.int .u32) w A0 l0.length l0) (hc0 : l0.length ≤ c0) (hr1 : Kd.C (Kd.int .u32) w A1 l1.length l1) (hc1 : l1.length ≤ c1) (h : codewrightref01_Mul.f k l0 l1 = some r) :
  Calls Try.prog 33 #[.slice A0 l0.length c0, .slice A1 l1.length c1] w fun e w' => ∃ v0_ : Value, e = .returned (v0_) ∧ Kd.R (Kd.int .u32) 85 w' w.heap.size (fun _ => True) v0_ r ∧ Below w.heap.size w w' := by
 have HR0 := zA hr0
 have HC0 := zA hc0
 clear hr0 hc0
 have HR1 := zA hr1
 have HC1 := zA hc1
 clear hr1 hc1
 have HB := zA (Below.refl w.heap.size w)
 have H : (if 0 ≤ (wrap64 ((l0.length : Int) + (l1.length : Int))) then (if (wrap64 ((l0.length : Int) + (l1.length : Int)) : Int).toNat ≤ 70368744177664 then (codewrightref01_Mul.l0 k l0 l1 (List.replicate (wrap64 ((l0.length : Int) + (l1.length : Int)) : Int).toNat 0) 0) else (none)) else (none)) = some r := h
 clear h
 obtain ⟨ji3, hji3⟩ : ∃ j_ : Int, (wrap64 ((l0.length : Int) + (l1.length : Int))) = j_ := ⟨_, rfl⟩
 replace H : (if 0 ≤ (ji3) then (if (ji3 : Int).toNat ≤ 70368744177664 then (codewrightref01_Mul.l0 k l0 l1 (List.replicate (ji3 : Int).toNat 0) 0) else (none)) else (none)) = some r := by first | (rw [hji3] at H; exact H) | (simp only [hji3] at H ⊢; exact H)
 have hji3w : (IntKind.i64.wrap ((l0.length : Int) + (l1.length : Int))) = ji3 := (i64_w _).trans hji3
 by_cases c4 : 0 ≤ (ji3)
 ·
  rw [if_pos c4] at H
  have c4b0 := eq_true c4
  have c4b1 : decide (0 ≤ (ji3)) = true := decide_eq_true c4
  clear c4
  by_cases c5 : (ji3 : Int).toNat ≤ 70368744177664
  ·
   rw [if_pos c5] at H
   have c5b0 := eq_true c5
   have c5b1 : decide ((ji3 : Int).toNat ≤ 70368744177664) = true := decide_eq_true c5
   clear c5
   obtain ⟨y423, hy423⟩ : ∃ y_ : List Int, y_ = (List.replicate (ji3 : Int).toNat 0) := ⟨_, rfl⟩
   replace H : (codewrightref01_Mul.l0 k l0 l1 y423 0) = some r := by first | (rw [hy423]; with_reducible exact H) | (have H := (Option.bind_some _ _).symm.trans H; first | (rw [hy423]; with_reducible exact H) | with_reducible exact H) | (rw [hy423]; exact H) | exact H
   have Ny423 := zA hy423
   clear hy423
   have H' := zA H
   clear H
   go_enter Try.func33, Try.ntmps33
   go_wp2_with (first | ((with_reducible refine gate_dst (N := 15) rfl ?_); refine Kd.R_make (Kd.int .u32) _ 85 rfl (N := 15) rfl 38 _ _ rfl ji3 rfl rfl Try.underlying38 (.int .u32 0) 4 info85 rfl (by decide) (by omega) 0 (ok := fun _ => True) (okp := fun _ => True) rfl (fun _ hk => hk) trivial (of_decide_eq_true (by assumption)) (Nat.le_trans (Nat.mul_le_mul_right _ (of_decide_eq_true (by assumption) : ji3.toNat ≤ 70368744177664)) (by omega)) (Below.refl _ _) (Nat.le_refl _) ?_; intro v424 w6 ho7 hb hg_ hnew_; clear hg_ hnew_; (first | rw [← Ny423.out] at ho7 | (simp only [Int.reduceToNat] at ho7; rw [← Ny423.out] at ho7)); have HO425 := zA (Kd.R_lower ho7 (below_size (by exact zB HB))); replace HB := zA (below_step (by exact zB HB) hb); clear hb ho7))
   repeat (go_quiet (first | ((with_reducible refine gate_dst (N := 15) rfl ?_); refine Kd.R_make (Kd.int .u32) _ 85 rfl (N := 15) rfl 38 _ _ rfl ji3 rfl rfl Try.underlying38 (.int .u32 0) 4 info85 rfl (by decide) (by omega) 0 (ok := fun _ => True) (okp := fun _ => True) rfl (fun _ hk => hk) trivial (of_decide_eq_true (by assumption)) (Nat.le_trans (Nat.mul_le_mul_right _ (of_decide_eq_true (by assumption) : ji3.toNat ≤ 70368744177664)) (by omega)) (Below.refl _ _) (Nat.le_refl _) ?_; intro v424 w6 ho7 hb hg_ hnew_; clear hg_ hnew_; (first | rw [← Ny423.out] at ho7 | (simp only [Int.reduceToNat] at ho7; rw [← Ny423.out] at ho7)); have HO425 := zA (Kd.R_lower ho7 (below_size (by exact zB HB))); replace HB := zA (below_step (by exact zB HB) hb); clear hb ho7)); try go_wp2_with (first | ((with_reducible refine gate_dst (N := 15) rfl ?_); refine Kd.R_make (Kd.int .u32) _ 85 rfl (N := 15) rfl 38 _ _ rfl ji3 rfl rfl Try.underlying38 (.int .u32 0) 4 info85 rfl (by decide) (by omega) 0 (ok := fun _ => True) (okp := fun _ => True) rfl (fun _ hk => hk) trivial (of_decide_eq_true (by assumption)) (Nat.le_trans (Nat.mul_le_mul_right _ (of_decide_eq_true (by assumption) : ji3.toNat ≤ 70368744177664)) (by omega)) (Below.refl _ _) (Nat.le_refl _) ?_; intro v424 w6 ho7 hb hg_ hnew_; clear hg_ hnew_; (first | rw [← Ny423.out] at ho7 | (simp only [Int.reduceToNat] at ho7; rw [← Ny423.out] at ho7)); have HO425 := zA (Kd.R_lower ho7 (below_size (by exact zB HB))); replace HB := zA (below_step (by exact zB HB) hb); clear hb ho7)))
   go_loopg [6] k (fun kq v6 w' => ∃ (x5_1 : List Int) (x6_1 : Int), v6 = .int .i64 x6_1 ∧ Aside0 (codewrightref01_Mul.l0 kq l0 l1 x5_1 x6_1 = some r) ∧ Aside0 (kq ≤ k) ∧ Aside0 (Kd.R (Kd.int .u32) 85 w' w.heap.size (fun _ => True) v424 x5_1) ∧ Aside0 (Below w.heap.size w w'))
   case atStart => exact ⟨(y423), (0), (by first | rfl | (simp; done) | (simp [*]; done)), H', ⟨Nat.le_refl _⟩, ⟨by exact zR HO425⟩, ⟨by exact zB HB⟩⟩
   case round =>
    clear H'
    try clear c1
    try clear p2
    try clear c3
    try clear c4
    try clear c4b0
    try clear c4b1
    try clear c5
    try clear c5b0
    try clear c5b1
    try clear p6
    obtain ⟨x5_1, x6_1, rfl, HA, HK1, HO_5, HB⟩ := hrel
    cases gk with
    | zero => exact absurd HA.out (by simp [codewrightref01_Mul.l0])
    | succ k1 =>
     have H := HA.out
     clear HA
     simp only [codewrightref01_Mul.l0] at H
     by_cases c8 : x6_1 < (l0.length : Int)
     ·
      rw [if_pos c8] at H
      have c8b0 : decide (x6_1 < (l0.length : Int)) = true := decide_eq_true c8
      clear c8
      have H' := zA H
      clear H
      go_wp2
      repeat (go_quiet (fail); try go_wp2)
      go_loopg [7, 8] k1 (fun kq v7 v8 w' => ∃ (x5_2 : List Int) (x7_2 : Int) (x8_2 : Int), v7 = .int .u64 x7_2 ∧ v8 = .int .i64 x8_2 ∧ Aside0 (codewrightref01_Mul.l1 kq l0 l1 x5_2 x6_1 x7_2 x8_2 = some r) ∧ Aside0 (kq ≤ k1) ∧ Aside0 (Kd.R (Kd.int .u32) 85 w' w.heap.size (fun _ => True) v424 x5_2) ∧ Aside0 (Below w.heap.size w w'))
      case atStart => exact ⟨(x5_1), (0), (0), (by first | rfl | (simp; done) | (simp [*]; done)), (by first | rfl | (simp; done) | (simp [*]; done)), H', ⟨Nat.le_refl _⟩, ⟨by exact zR HO_5⟩, ⟨by exact zB HB⟩⟩
      case round =>
       clear H'
       try clear c1
       try clear p2
       try clear c3
       try clear c4
       try clear c4b0
       try clear c4b1
       try clear c5
       try clear c5b0
       try clear c5b1
       try clear p6
       try clear c8
       try clear c8b0
       try clear p2
       try clear p6
       obtain ⟨x5_2, x7_2, x8_2, rfl, rfl, HA, HK2, HO_5, HB⟩ := hrel
       cases gk with
       | zero => exact absurd HA.out (by simp [codewrightref01_Mul.l1])
       | succ k2 =>
        have H := HA.out
        clear HA
        simp only [codewrightref01_Mul.l1] at H
        by_cases c9 : x8_2 < (l1.length : Int)
        ·
         rw [if_pos c9] at H
         have c9b0 : decide (x8_2 < (l1.length : Int)) = true := decide_eq_true c9
         clear c9
         by_cases c10 : 0 ≤ x6_1
         ·
          rw [if_pos c10] at H
          have c10b0 : decide (0 ≤ x6_1) = true := decide_eq_true c10
          clear c10
          by_cases c11 : x6_1 < (l0.length : Int)
          ·
           rw [if_pos c11] at H
           have c11b0 : decide (x6_1 < (l0.length : Int)) = true := decide_eq_true c11
           clear c11
           by_cases c12 : 0 ≤ x8_2
           ·
            rw [if_pos c12] at H
            have c12b0 : decide (0 ≤ x8_2) = true := decide_eq_true c12
            clear c12
            obtain ⟨ji13, hji13⟩ : ∃ j_ : Int, (wrap64 (x6_1 + x8_2)) = j_ := ⟨_, rfl⟩
            replace H : (if 0 ≤ (ji13) then (if (ji13) < (x5_2.length : Int) then (codewrightref01_Mul.l1 k2 l0 l1 (x5_2.set ((ji13) : Int).toNat ((Int.tmod (IntKind.u64.wrap ((IntKind.u64.wrap ((IntKind.u64.wrap ((IntKind.u64.wrap (rd l0 x6_1)) * (IntKind.u64.wrap (rd l1 x8_2)))) + (IntKind.u64.wrap (rd x5_2 (ji13))))) + x7_2)) 4294967296) % 4294967296)) x6_1 (IntKind.u64.wrap (Int.tdiv (IntKind.u64.wrap ((IntKind.u64.wrap ((IntKind.u64.wrap ((IntKind.u64.wrap (rd l0 x6_1)) * (IntKind.u64.wrap (rd l1 x8_2)))) + (IntKind.u64.wrap (rd x5_2 (ji13))))) + x7_2)) 4294967296)) (wrap64 (x8_2 + 1))) else (none)) else (none)) = some r := by first | (rw [hji13] at H; exact H) | (simp only [hji13] at H ⊢; exact H)
            have hji13w : (IntKind.i64.wrap (x6_1 + x8_2)) = ji13 := (i64_w _).trans hji13
            by_cases c14 : 0 ≤ (ji13)
            ·
             rw [if_pos c14] at H
             have c14b0 : decide (0 ≤ (ji13)) = true := decide_eq_true c14
             clear c14
             by_cases c15 : (ji13) < (x5_2.length : Int)
             ·
              rw [if_pos c15] at H
              have c15b0 : decide ((ji13) < (x5_2.length : Int)) = true := decide_eq_true c15
              clear c15
              obtain ⟨y432, hy432⟩ : ∃ y_ : List Int, y_ = (x5_2.set ((ji13) : Int).toNat ((Int.tmod (IntKind.u64.wrap ((IntKind.u64.wrap ((IntKind.u64.wrap ((IntKind.u64.wrap (rd l0 x6_1)) * (IntKind.u64.wrap (rd l1 x8_2)))) + (IntKind.u64.wrap (rd x5_2 (ji13))))) + x7_2)) 4294967296) % 4294967296)) := ⟨_, rfl⟩
              replace H : (codewrightref01_Mul.l1 k2 l0 l1 y432 x6_1 (IntKind.u64.wrap (Int.tdiv (IntKind.u64.wrap ((IntKind.u64.wrap ((IntKind.u64.wrap ((IntKind.u64.wrap (rd l0 x6_1)) * (IntKind.u64.wrap (rd l1 x8_2)))) + (IntKind.u64.wrap (rd x5_2 (ji13))))) + x7_2)) 4294967296)) (wrap64 (x8_2 + 1))) = some r := by first | (rw [hy432]; with_reducible exact H) | (have H := (Option.bind_some _ _).symm.trans H; first | (rw [hy432]; with_reducible exact H) | with_reducible exact H) | (rw [hy432]; exact H) | exact H
              have Ny432 := zA hy432
              clear hy432
              have H' := zA H
              clear H
              have p429 : 0 ≤ (x6_1 : Int) := of_decide_eq_true (by assumption)
              have q429 : x6_1 < (l0.length : Int) := of_decide_eq_true (by assumption)
              obtain ⟨ad429, e429, hx429_0⟩ := Kd.at_int HR0.out x6_1 p429 q429
              cases e429
              replace hx429_0 := (HB.out.cell (World.block_lt_of_cell? w _ hx429_0)).trans hx429_0
              replace p429 := eq_true p429
              replace q429 := eq_true q429
              have p430 : 0 ≤ (x8_2 : Int) := of_decide_eq_true (by assumption)
              have q430 : x8_2 < (l1.length : Int) := of_decide_eq_true (by assumption)
              obtain ⟨ad430, e430, hx430_0⟩ := Kd.at_int HR1.out x8_2 p430 q430
              cases e430
              replace hx430_0 := (HB.out.cell (World.block_lt_of_cell? w _ hx430_0)).trans hx430_0
              replace p430 := eq_true p430
              replace q430 := eq_true q430
              obtain ⟨Ao17, co17, eo17⟩ := Kd.R_slice HO_5.out
              subst eo17
              have p431 : 0 ≤ ((ji13) : Int) := of_decide_eq_true (by assumption)
              have q431 : (ji13) < (x5_2.length : Int) := of_decide_eq_true (by assumption)
              obtain ⟨ad431, e431, hx431_0⟩ := Kd.at_int (Kd.R_reads' HO_5.out).2.2 (ji13) p431 q431
              cases e431
              replace p431 := eq_true p431
              replace q431 := eq_true q431
              have p16 : 0 ≤ ((ji13) : Int) := of_decide_eq_true (by assumption)
              have q16 : ((ji13) : Int) < ((x5_2.length : Int) : Int) := of_decide_eq_true (by assumption)
              obtain ⟨go16, co16, eo16, gb16, gl16, cl16, HG16⟩ := Kd.R_form HO_5.out (by omega)
              (first | cases eo16 | (injection eo16 with ea_ en_ ec_; (first | subst ea_ | (injection ea_ with ea_; subst ea_)); subst ec_; clear en_))
              have GB16 := zA gb16
              have GG16 := zA HG16
              clear gb16 gl16 HG16
              (first | simp only [add_plain] at hx431_0 | skip)
              obtain ⟨hx16_0, hf16_0⟩ := Kd.R_celln 0 HO_5.out ((ji13) : Int) p16 q16
              replace p16 := eq_true p16
              replace q16 := eq_true q16
              have HP18 := Kd.R_putg HO_5.out ((ji13) : Int) ((Int.tmod (IntKind.u64.wrap ((IntKind.u64.wrap ((IntKind.u64.wrap ((IntKind.u64.wrap (rd l0 x6_1)) * (IntKind.u64.wrap (rd l1 x8_2)))) + (IntKind.u64.wrap (rd x5_2 (ji13))))) + x7_2)) 4294967296) % 4294967296)
              go_wp2_with (first | ((with_reducible refine gate_store (t := 85) (p := 56) rfl ?_); (try (rw [drewN_self wr]; generalize hq_ : World.drewN wr _ = wr; have n0_ := zA (Kd.R_at hq_ HO_5.out); have n1_ := zA (below_at hq_ HB.out); clear hq_ HO_5 HB; have HO_5 := n0_; have HB := n1_; clear n0_ n1_; (try (have HP18 := Kd.R_putg HO_5.out ((ji13) : Int) ((Int.tmod (IntKind.u64.wrap ((IntKind.u64.wrap ((IntKind.u64.wrap ((IntKind.u64.wrap (rd l0 x6_1)) * (IntKind.u64.wrap (rd l1 x8_2)))) + (IntKind.u64.wrap (rd x5_2 (ji13))))) + x7_2)) 4294967296) % 4294967296))))); (try (have hxn_ := Kd.R_celln 0 HO_5.out ((ji13) : Int) (of_eq_true p16) (of_eq_true q16); clear hx16_0 hf16_0; have hx16_0 := hxn_.1; have hf16_0 := hxn_.2; clear hxn_; (try simp only [Int.toNat_natCast] at hx16_0 hf16_0))); refine store_event (t := 85) (p := 56) (v := ?vo_w19) (w1 := (wr.setCell ⟨go16, ((ji13) : Int).toNat, none⟩ (.int .u32 ((Int.tmod (IntKind.u64.wrap ((IntKind.u64.wrap ((IntKind.u64.wrap ((IntKind.u64.wrap (rd l0 x6_1)) * (IntKind.u64.wrap (rd l1 x8_2)))) + (IntKind.u64.wrap (rd x5_2 (ji13))))) + x7_2)) 4294967296) % 4294967296)))) ?hg ?ho ?hn ?hr ?_; (case ho => rfl); (case hg => rfl); (case hn => rfl); (case hr => first | (go_simp; done) | (go_simp; rfl)); intro w19 hw; have hg : wr.grownBy w19 (some go16) := (by rw [hw]; exact HP18.2); have hp_ : Kd.R (Kd.int .u32) 85 w19 w.heap.size (fun _ => True) (.slice (some ⟨go16, 0, none⟩) x5_2.length co17) y432 := (by rw [hw, Ny432.out]; exact HP18.1); clear HP18; replace HO_5 := zA (hp_); replace HB := zA ((by rw [hw]; exact below_set (HB.out) GB16.out : Below w.heap.size w w19)); clear hg hw hp_))
              repeat (go_quiet (first | ((with_reducible refine gate_store (t := 85) (p := 56) rfl ?_); (try (rw [drewN_self wr]; generalize hq_ : World.drewN wr _ = wr; have n0_ := zA (Kd.R_at hq_ HO_5.out); have n1_ := zA (below_at hq_ HB.out); clear hq_ HO_5 HB; have HO_5 := n0_; have HB := n1_; clear n0_ n1_; (try (have HP18 := Kd.R_putg HO_5.out ((ji13) : Int) ((Int.tmod (IntKind.u64.wrap ((IntKind.u64.wrap ((IntKind.u64.wrap ((IntKind.u64.wrap (rd l0 x6_1)) * (IntKind.u64.wrap (rd l1 x8_2)))) + (IntKind.u64.wrap (rd x5_2 (ji13))))) + x7_2)) 4294967296) % 4294967296))))); (try (have hxn_ := Kd.R_celln 0 HO_5.out ((ji13) : Int) (of_eq_true p16) (of_eq_true q16); clear hx16_0 hf16_0; have hx16_0 := hxn_.1; have hf16_0 := hxn_.2; clear hxn_; (try simp only [Int.toNat_natCast] at hx16_0 hf16_0))); refine store_event (t := 85) (p := 56) (v := ?vo_w19) (w1 := (wr.setCell ⟨go16, ((ji13) : Int).toNat, none⟩ (.int .u32 ((Int.tmod (IntKind.u64.wrap ((IntKind.u64.wrap ((IntKind.u64.wrap ((IntKind.u64.wrap (rd l0 x6_1)) * (IntKind.u64.wrap (rd l1 x8_2)))) + (IntKind.u64.wrap (rd x5_2 (ji13))))) + x7_2)) 4294967296) % 4294967296)))) ?hg ?ho ?hn ?hr ?_; (case ho => rfl); (case hg => rfl); (case hn => rfl); (case hr => first | (go_simp; done) | (go_simp; rfl)); intro w19 hw; have hg : wr.grownBy w19 (some go16) := (by rw [hw]; exact HP18.2); have hp_ : Kd.R (Kd.int .u32) 85 w19 w.heap.size (fun _ => True) (.slice (some ⟨go16, 0, none⟩) x5_2.length co17) y432 := (by rw [hw, Ny432.out]; exact HP18.1); clear HP18; replace HO_5 := zA (hp_); replace HB := zA ((by rw [hw]; exact below_set (HB.out) GB16.out : Below w.heap.size w w19)); clear hg hw hp_)); try go_wp2_with (first | ((with_reducible refine gate_store (t := 85) (p := 56) rfl ?_); (try (rw [drewN_self wr]; generalize hq_ : World.drewN wr _ = wr; have n0_ := zA (Kd.R_at hq_ HO_5.out); have n1_ := zA (below_at hq_ HB.out); clear hq_ HO_5 HB; have HO_5 := n0_; have HB := n1_; clear n0_ n1_; (try (have HP18 := Kd.R_putg HO_5.out ((ji13) : Int) ((Int.tmod (IntKind.u64.wrap ((IntKind.u64.wrap ((IntKind.u64.wrap ((IntKind.u64.wrap (rd l0 x6_1)) * (IntKind.u64.wrap (rd l1 x8_2)))) + (IntKind.u64.wrap (rd x5_2 (ji13))))) + x7_2)) 4294967296) % 4294967296))))); (try (have hxn_ := Kd.R_celln 0 HO_5.out ((ji13) : Int) (of_eq_true p16) (of_eq_true q16); clear hx16_0 hf16_0; have hx16_0 := hxn_.1; have hf16_0 := hxn_.2; clear hxn_; (try simp only [Int.toNat_natCast] at hx16_0 hf16_0))); refine store_event (t := 85) (p := 56) (v := ?vo_w19) (w1 := (wr.setCell ⟨go16, ((ji13) : Int).toNat, none⟩ (.int .u32 ((Int.tmod (IntKind.u64.wrap ((IntKind.u64.wrap ((IntKind.u64.wrap ((IntKind.u64.wrap (rd l0 x6_1)) * (IntKind.u64.wrap (rd l1 x8_2)))) + (IntKind.u64.wrap (rd x5_2 (ji13))))) + x7_2)) 4294967296) % 4294967296)))) ?hg ?ho ?hn ?hr ?_; (case ho => rfl); (case hg => rfl); (case hn => rfl); (case hr => first | (go_simp; done) | (go_simp; rfl)); intro w19 hw; have hg : wr.grownBy w19 (some go16) := (by rw [hw]; exact HP18.2); have hp_ : Kd.R (Kd.int .u32) 85 w19 w.heap.size (fun _ => True) (.slice (some ⟨go16, 0, none⟩) x5_2.length co17) y432 := (by rw [hw, Ny432.out]; exact HP18.1); clear HP18; replace HO_5 := zA (hp_); replace HB := zA ((by rw [hw]; exact below_set (HB.out) GB16.out : Below w.heap.size w w19)); clear hg hw hp_)))
              go_roundg k2
              case measure => have := HK1.out; have := HK2.out; omega
              case rel => exact ⟨(y432), (IntKind.u64.wrap (Int.tdiv (IntKind.u64.wrap ((IntKind.u64.wrap ((IntKind.u64.wrap ((IntKind.u64.wrap (rd l0 x6_1)) * (IntKind.u64.wrap (rd l1 x8_2)))) + (IntKind.u64.wrap (rd x5_2 (ji13))))) + x7_2)) 4294967296)), (wrap64 (x8_2 + 1)), (by first | rfl | (simp; done) | (simp only [← hji13] <;> (first | rfl | simp)) | (simp [*]; done)), (by first | rfl | (simp; done) | (simp [*]; done)), H', ⟨by have := HK1.out; have := HK2.out; omega⟩, ⟨by exact zR HO_5⟩, ⟨by exact zB HB⟩⟩
             ·
              rw [if_neg c15] at H
              exact absurd H (by simp)
            ·
             rw [if_neg c14] at H
             exact absurd H (by simp)
           ·
            rw [if_neg c12] at H
            exact absurd H (by simp)
          ·
           rw [if_neg c11] at H
           exact absurd H (by simp)
         ·
          rw [if_neg c10] at H
          exact absurd H (by simp)
        ·
         rw [if_neg c9] at H
         have c9b0 : decide (x8_2 < (l1.length : Int)) = false := decide_eq_false c9
         clear c9
         obtain ⟨ji20, hji20⟩ : ∃ j_ : Int, (wrap64 (x6_1 + (l1.length : Int))) = j_ := ⟨_, rfl⟩
         replace H : (if 0 ≤ (ji20) then (if (ji20) < (x5_2.length : Int) then (codewrightref01_Mul.l0 k2 l0 l1 (x5_2.set ((ji20) : Int).toNat ((x7_2) % 4294967296)) (wrap64 (x6_1 + 1))) else (none)) else (none)) = some r := by first | (rw [hji20] at H; exact H) | (simp only [hji20] at H ⊢; exact H)
         have hji20w : (IntKind.i64.wrap (x6_1 + (l1.length : Int))) = ji20 := (i64_w _).trans hji20
         by_cases c21 : 0 ≤ (ji20)
         ·
          rw [if_pos c21] at H
          have c21b0 : decide (0 ≤ (ji20)) = true := decide_eq_true c21
          clear c21
          by_cases c22 : (ji20) < (x5_2.length : Int)
          ·
           rw [if_pos c22] at H
           have c22b0 : decide ((ji20) < (x5_2.length : Int)) = true := decide_eq_true c22
           clear c22
           obtain ⟨y433, hy433⟩ : ∃ y_ : List Int, y_ = (x5_2.set ((ji20) : Int).toNat ((x7_2) % 4294967296)) := ⟨_, rfl⟩
           replace H : (codewrightref01_Mul.l0 k2 l0 l1 y433 (wrap64 (x6_1 + 1))) = some r := by first | (rw [hy433]; with_reducible exact H) | (have H := (Option.bind_some _ _).symm.trans H; first | (rw [hy433]; with_reducible exact H) | with_reducible exact H) | (rw [hy433]; exact H) | exact H
           have Ny433 := zA hy433
           clear hy433
           have H' := zA H
           clear H
           have p23 : 0 ≤ ((ji20) : Int) := of_decide_eq_true (by assumption)
           have q23 : ((ji20) : Int) < ((x5_2.length : Int) : Int) := of_decide_eq_true (by assumption)
           obtain ⟨go23, co23, eo23, gb23, gl23, cl23, HG23⟩ := Kd.R_form HO_5.out (by omega)
           (first | cases eo23 | (injection eo23 with ea_ en_ ec_; (first | subst ea_ | (injection ea_ with ea_; subst ea_)); subst ec_; clear en_))
           have GB23 := zA gb23
           have GG23 := zA HG23
           clear gb23 gl23 HG23
           obtain ⟨hx23_0, hf23_0⟩ := Kd.R_celln 0 HO_5.out ((ji20) : Int) p23 q23
           replace p23 := eq_true p23
           replace q23 := eq_true q23
           have HP24 := Kd.R_putg HO_5.out ((ji20) : Int) ((x7_2) % 4294967296)
           go_wp2_with (first | ((with_reducible refine gate_store (t := 85) (p := 66) rfl ?_); (try (rw [drewN_self wr]; generalize hq_ : World.drewN wr _ = wr; have n0_ := zA (Kd.R_at hq_ HO_5.out); have n1_ := zA (below_at hq_ HB.out); clear hq_ HO_5 HB; have HO_5 := n0_; have HB := n1_; clear n0_ n1_; (try (have HP24 := Kd.R_putg HO_5.out ((ji20) : Int) ((x7_2) % 4294967296))))); (try (have hxn_ := Kd.R_celln 0 HO_5.out ((ji20) : Int) (of_eq_true p23) (of_eq_true q23); clear hx23_0 hf23_0; have hx23_0 := hxn_.1; have hf23_0 := hxn_.2; clear hxn_; (try simp only [Int.toNat_natCast] at hx23_0 hf23_0))); refine store_event (t := 85) (p := 66) (v := ?vo_w25) (w1 := (wr.setCell ⟨go23, ((ji20) : Int).toNat, none⟩ (.int .u32 ((x7_2) % 4294967296)))) ?hg ?ho ?hn ?hr ?_; (case ho => rfl); (case hg => rfl); (case hn => rfl); (case hr => first | (go_simp; done) | (go_simp; rfl)); intro w25 hw; have hg : wr.grownBy w25 (some go23) := (by rw [hw]; exact HP24.2); have hp_ : Kd.R (Kd.int .u32) 85 w25 w.heap.size (fun _ => True) (.slice (some ⟨go23, 0, none⟩) x5_2.length co23) y433 := (by rw [hw, Ny433.out]; exact HP24.1); clear HP24; replace HO_5 := zA (hp_); replace HB := zA ((by rw [hw]; exact below_set (HB.out) GB23.out : Below w.heap.size w w25)); clear hg hw hp_))
           repeat (go_quiet (first | ((with_reducible refine gate_store (t := 85) (p := 66) rfl ?_); (try (rw [drewN_self wr]; generalize hq_ : World.drewN wr _ = wr; have n0_ := zA (Kd.R_at hq_ HO_5.out); have n1_ := zA (below_at hq_ HB.out); clear hq_ HO_5 HB; have HO_5 := n0_; have HB := n1_; clear n0_ n1_; (try (have HP24 := Kd.R_putg HO_5.out ((ji20) : Int) ((x7_2) % 4294967296))))); (try (have hxn_ := Kd.R_celln 0 HO_5.out ((ji20) : Int) (of_eq_true p23) (of_eq_true q23); clear hx23_0 hf23_0; have hx23_0 := hxn_.1; have hf23_0 := hxn_.2; clear hxn_; (try simp only [Int.toNat_natCast] at hx23_0 hf23_0))); refine store_event (t := 85) (p := 66) (v := ?vo_w25) (w1 := (wr.setCell ⟨go23, ((ji20) : Int).toNat, none⟩ (.int .u32 ((x7_2) % 4294967296)))) ?hg ?ho ?hn ?hr ?_; (case ho => rfl); (case hg => rfl); (case hn => rfl); (case hr => first | (go_simp; done) | (go_simp; rfl)); intro w25 hw; have hg : wr.grownBy w25 (some go23) := (by rw [hw]; exact HP24.2); have hp_ : Kd.R (Kd.int .u32) 85 w25 w.heap.size (fun _ => True) (.slice (some ⟨go23, 0, none⟩) x5_2.length co23) y433 := (by rw [hw, Ny433.out]; exact HP24.1); clear HP24; replace HO_5 := zA (hp_); replace HB := zA ((by rw [hw]; exact below_set (HB.out) GB23.out : Below w.heap.size w w25)); clear hg hw hp_)); try go_wp2_with (first | ((with_reducible refine gate_store (t := 85) (p := 66) rfl ?_); (try (rw [drewN_self wr]; generalize hq_ : World.drewN wr _ = wr; have n0_ := zA (Kd.R_at hq_ HO_5.out); have n1_ := zA (below_at hq_ HB.out); clear hq_ HO_5 HB; have HO_5 := n0_; have HB := n1_; clear n0_ n1_; (try (have HP24 := Kd.R_putg HO_5.out ((ji20) : Int) ((x7_2) % 4294967296))))); (try (have hxn_ := Kd.R_celln 0 HO_5.out ((ji20) : Int) (of_eq_true p23) (of_eq_true q23); clear hx23_0 hf23_0; have hx23_0 := hxn_.1; have hf23_0 := hxn_.2; clear hxn_; (try simp only [Int.toNat_natCast] at hx23_0 hf23_0))); refine store_event (t := 85) (p := 66) (v := ?vo_w25) (w1 := (wr.setCell ⟨go23, ((ji20) : Int).toNat, none⟩ (.int .u32 ((x7_2) % 4294967296)))) ?hg ?ho ?hn ?hr ?_; (case ho => rfl); (case hg => rfl); (case hn => rfl); (case hr => first | (go_simp; done) | (go_simp; rfl)); intro w25 hw; have hg : wr.grownBy w25 (some go23) := (by rw [hw]; exact HP24.2); have hp_ : Kd.R (Kd.int .u32) 85 w25 w.heap.size (fun _ => True) (.slice (some ⟨go23, 0, none⟩) x5_2.length co23) y433 := (by rw [hw, Ny433.out]; exact HP24.1); clear HP24; replace HO_5 := zA (hp_); replace HB := zA ((by rw [hw]; exact below_set (HB.out) GB23.out : Below w.heap.size w w25)); clear hg hw hp_)))
           go_roundg k2
           case measure => have := HK1.out; have := HK2.out; omega
           case rel => exact ⟨(y433), (wrap64 (x6_1 + 1)), (by first | rfl | (simp; done) | (simp [*]; done)), H', ⟨by have := HK1.out; have := HK2.out; omega⟩, ⟨by exact zR HO_5⟩, ⟨by exact zB HB⟩⟩
          ·
           rw [if_neg c22] at H
           exact absurd H (by simp)
         ·
          rw [if_neg c21] at H
          exact absurd H (by simp)
     ·
      rw [if_neg c8] at H
      have c8b0 : decide (x6_1 < (l0.length : Int)) = false := decide_eq_false c8
      clear c8
      replace H := Option.bind_eq_some_iff.mp H
      obtain ⟨t426, A260, H⟩ := H
      replace H : (some t426) = some r := H
      have A26 := zA A260
      clear A260
      obtain rfl := Option.some.inj H
      obtain ⟨Ao27, co27, eo27⟩ := Kd.R_slice HO_5.out
      subst eo27
      go_wp2_with (first | (go_at_call 65; (with_reducible refine (codewrightref01_Trim.calls k1 _ _ x5_1 t426 _ ?side1 ?side2 A26.out).mono ?_); (case side1 => exact zC ((Kd.R_reads' HO_5.out).2.2)); (case side2 => exact (Kd.R_reads' HO_5.out).2.1); rintro e w28 ⟨v427, rfl, ho0, hb⟩; have HO428 := zA (Kd.R_lower (Kd.R_new' ho0 (Kd.R_lt (by exact zR HO_5))) (below_size (by exact zB HB))); replace HO_5 := zA (Kd.R_elder' (by exact zR HO_5) (Kd.R_base ho0) hb); replace HB := zA (below_step (by exact zB HB) hb); (try clear hb ho0)))
      repeat (go_quiet (first | (go_at_call 65; (with_reducible refine (codewrightref01_Trim.calls k1 _ _ x5_1 t426 _ ?side1 ?side2 A26.out).mono ?_); (case side1 => exact zC ((Kd.R_reads' HO_5.out).2.2)); (case side2 => exact (Kd.R_reads' HO_5.out).2.1); rintro e w28 ⟨v427, rfl, ho0, hb⟩; have HO428 := zA (Kd.R_lower (Kd.R_new' ho0 (Kd.R_lt (by exact zR HO_5))) (below_size (by exact zB HB))); replace HO_5 := zA (Kd.R_elder' (by exact zR HO_5) (Kd.R_base ho0) hb); replace HB := zA (below_step (by exact zB HB) hb); (try clear hb ho0))); try go_wp2_with (first | (go_at_call 65; (with_reducible refine (codewrightref01_Trim.calls k1 _ _ x5_1 t426 _ ?side1 ?side2 A26.out).mono ?_); (case side1 => exact zC ((Kd.R_reads' HO_5.out).2.2)); (case side2 => exact (Kd.R_reads' HO_5.out).2.1); rintro e w28 ⟨v427, rfl, ho0, hb⟩; have HO428 := zA (Kd.R_lower (Kd.R_new' ho0 (Kd.R_lt (by exact zR HO_5))) (below_size (by exact zB HB))); replace HO_5 := zA (Kd.R_elder' (by exact zR HO_5) (Kd.R_base ho0) hb); replace HB := zA (below_step (by exact zB HB) hb); (try clear hb ho0))))
      go_ret
      exact ⟨_, by first | rfl | (simp [errW_none, errW_some] <;> rfl) | (simp only [← hji3]; first | rfl | (simp [errW_none, errW_some] <;> rfl)) | (simp [*, errW_none, errW_some] <;> rfl), by (with_reducible repeat (first | apply Kd.R_alloc | apply Kd.R_drewN | apply Kd.R_drew)); exact Kd.R_mono HO428.out (fun _ hk => trivial), by exact zB HB⟩
  ·
   rw [if_neg c5] at H
   exact absurd H (by simp)
 ·
  rw [if_neg c4] at H
  exact absurd H (by simp)
/-! ### codewrightref01_Bits: function 66 -/
def codewrightref01_Bits.l0 : Nat → Int → Int → Option (Int)
 | 0, _, _ => none
 | k + 1, x3, x4 => if x4 > 0 then (codewrightref01_Bits.l0 k (wrap64 (x3 + 1)) ((Int.tdiv x4 2) % 4294967296)) else (some x3)
def codewrightref01_Bits.f (k : Nat) (l0 : List Int) : Option (Int) := (codewrightref01_Trim.f k l0).bind fun t434 => (if (t434.length : Int) = 0 then (some 0) else (if 0 ≤ (wrap64 ((t434.length : Int) - 1)) then (if (wrap64 ((t434.length : Int) - 1)) < (t434.length : Int) then (codewrightref01_Bits.l0 k (wrap64 (32 * (wrap64 ((t434.length : Int) - 1)))) (rd t434 (wrap64 ((t434.length : Int) - 1)))) else (none)) else (none)))
set_option maxHeartbeats 8000000 in
set_option maxRecDepth 100000 in
theorem codewrightref01_Bits.calls (k : Nat) (A0 : Option Addr) (c0 : Nat) (l0 : List Int) (r : Int) (w : World) (hr0 : Kd.C (Kd.int .u32) w A0 l0.length l0) (hc0 : l0.length ≤ c0) (h : codewrightref01_Bits.f k l0 = some r) :
  Calls Try.prog 66 #[.slice A0 l0.length c0] w fun e w' => e = .returned (.int .i64 r) ∧ Below w.heap.size w w' := by
 have HR0 := zA hr0
 have HC0 := zA hc0
 clear hr0 hc0
 have HB := zA (Below.refl w.heap.size w)
 have H : ((codewrightref01_Trim.f k l0).bind fun t434 => (if (t434.length : Int) = 0 then (some 0) else (if 0 ≤ (wrap64 ((t434.length : Int) - 1)) then (if (wrap64 ((t434.length : Int) - 1)) < (t434.length : Int) then (codewrightref01_Bits.l0 k (wrap64 (32 * (wrap64 ((t434.length : Int) - 1)))) (rd t434 (wrap64 ((t434.length : Int) - 1)))) else (none)) else (none)))) = some r := h
 clear h
 replace H := Option.bind_eq_some_iff.mp H
 obtain ⟨t434, A20, H⟩ := H
 replace H : (if (t434.length : Int) = 0 then (some 0) else (if 0 ≤ (wrap64 ((t434.length : Int) - 1)) then (if (wrap64 ((t434.length : Int) - 1)) < (t434.length : Int) then (codewrightref01_Bits.l0 k (wrap64 (32 * (wrap64 ((t434.length : Int) - 1)))) (rd t434 (wrap64 ((t434.length : Int) - 1)))) else (none)) else (none))) = some r := H
 have A2 := zA A20
 clear A20
 by_cases c3 : (t434.length : Int) = 0
 ·
  rw [if_pos c3] at H
  have c3b0 : ((t434.length : Int) == 0) = true := beq_iff_eq.mpr c3
  have c3b1 : ((t434.length : Int) != 0) = false := bne_eq_false_iff_eq.mpr c3
  clear c3
  obtain rfl := Option.some.inj H
  go_enter Try.func66, Try.ntmps66
  go_wp2_with (first | ((with_reducible refine gate_callee (f := 65) rfl ?_); refine goesL_ (some 6) rfl rfl Try.func65 (by kernel_rfl) rfl #[.slice A0 l0.length c0] rfl (by (try simp only [List.map_toArray, List.map_cons, List.map_nil]); first | done | rfl | (simp only [List.length_drop, List.length_take]; rfl)) ?_; (with_reducible refine (codewrightref01_Trim.calls k _ _ l0 t434 _ ?side1 ?side2 A2.out).mono ?_); (case side1 => exact zC (HR0.out)); (case side2 => exact HC0.out); rintro e w4 ⟨v435, rfl, ho0, hb⟩; refine ⟨_, rfl, ?_⟩; have HO436 := zA (Kd.R_lower ho0 (below_size (by exact zB HB))); replace HB := zA (below_step (by exact zB HB) hb); (try clear hb ho0); obtain ⟨Ao5, co5, eo5⟩ := Kd.R_slice HO436.out; subst eo5))
  go_ret
  exact ⟨by first | rfl | (simp [errW_none, errW_some] <;> rfl) | (simp [*, errW_none, errW_some] <;> rfl), by exact zB HB⟩
 ·
  rw [if_neg c3] at H
  have c3b0 : ((t434.length : Int) == 0) = false := beq_eq_false_iff_ne.mpr c3
  have c3b1 : ((t434.length : Int) != 0) = true := bne_iff_ne.mpr c3
  have c3b2 : ¬ (t434 = []) := fun h_ => c3 (by rw [h_]; rfl)
  obtain ⟨ji6, hji6⟩ : ∃ j_ : Int, (wrap64 ((t434.length : Int) - 1)) = j_ := ⟨_, rfl⟩
  replace H : (if 0 ≤ (ji6) then (if (ji6) < (t434.length : Int) then (codewrightref01_Bits.l0 k (wrap64 (32 * (ji6))) (rd t434 (ji6))) else (none)) else (none)) = some r := by first | (rw [hji6] at H; exact H) | (simp only [hji6] at H ⊢; exact H)
  (try rw [hji6] at A2)
  have hji6w : (IntKind.i64.wrap ((t434.length : Int) - 1)) = ji6 := (i64_w _).trans hji6
  by_cases c7 : 0 ≤ (ji6)
  ·
   rw [if_pos c7] at H
   have c7b0 : decide (0 ≤ (ji6)) = true := decide_eq_true c7
   clear c7
   by_cases c8 : (ji6) < (t434.length : Int)
   ·
    rw [if_pos c8] at H
    have c8b0 : decide ((ji6) < (t434.length : Int)) = true := decide_eq_true c8
    clear c8
    have H' := zA H
    clear H
    go_enter Try.func66, Try.ntmps66
    go_wp2_with (first | ((with_reducible refine gate_callee (f := 65) rfl ?_); refine goesL_ (some 6) rfl rfl Try.func65 (by kernel_rfl) rfl #[.slice A0 l0.length c0] rfl (by (try simp only [List.map_toArray, List.map_cons, List.map_nil]); first | done | rfl | (simp only [List.length_drop, List.length_take]; rfl)) ?_; (with_reducible refine (codewrightref01_Trim.calls k _ _ l0 t434 _ ?side1 ?side2 A2.out).mono ?_); (case side1 => exact zC (HR0.out)); (case side2 => exact HC0.out); rintro e w9 ⟨v435, rfl, ho0, hb⟩; refine ⟨_, rfl, ?_⟩; have HO436 := zA (Kd.R_lower ho0 (below_size (by exact zB HB))); replace HB := zA (below_step (by exact zB HB) hb); (try clear hb ho0); obtain ⟨Ao10, co10, eo10⟩ := Kd.R_slice HO436.out; subst eo10; have p437 : 0 ≤ ((ji6) : Int) := of_decide_eq_true (by assumption); have q437 : (ji6) < (t434.length : Int) := of_decide_eq_true (by assumption); obtain ⟨ad437, e437, hx437_0⟩ := Kd.at_int (Kd.R_reads' HO436.out).2.2 (ji6) p437 q437; cases e437; replace p437 := eq_true p437; replace q437 := eq_true q437))
    go_loopg [3, 4] k (fun kq v3 v4 w' => ∃ (x3_1 : Int) (x4_1 : Int), v3 = .int .i64 x3_1 ∧ v4 = .int .u32 x4_1 ∧ Aside0 (codewrightref01_Bits.l0 kq x3_1 x4_1 = some r) ∧ Aside0 (kq ≤ k) ∧ Aside0 (Below w.heap.size w w'))
    case atStart => exact ⟨(wrap64 (32 * (ji6))), (rd t434 (ji6)), (by first | rfl | (simp; done) | (simp only [← hji6] <;> (first | rfl | simp)) | (simp [*]; done)), (by first | rfl | (simp; done) | (simp only [← hji6] <;> (first | rfl | simp)) | (simp [*]; done)), H', ⟨Nat.le_refl _⟩, ⟨by exact zB HB⟩⟩
    case round =>
     clear H'
     try clear p2
     try clear c3
     try clear c3b0
     try clear c3b1
     try clear c3b2
     try clear p4
     try clear q4
     try clear hx4
     try clear c6
     try clear p6
     try clear c7
     try clear c7b0
     try clear c8
     try clear c8b0
     try clear hx437_0
     try clear p437
     try clear q437
     obtain ⟨x3_1, x4_1, rfl, rfl, HA, HK1, HB⟩ := hrel
     cases gk with
     | zero => exact absurd HA.out (by simp [codewrightref01_Bits.l0])
     | succ k1 =>
      have H := HA.out
      clear HA
      simp only [codewrightref01_Bits.l0] at H
      by_cases c11 : x4_1 > 0
      ·
       rw [if_pos c11] at H
       have c11b0 : decide (0 < x4_1) = true := decide_eq_true c11
       clear c11
       have H' := zA H
       clear H
       go_wp2
       go_roundg k1
       case measure => have := HK1.out; omega
       case rel => exact ⟨(wrap64 (x3_1 + 1)), ((Int.tdiv x4_1 2) % 4294967296), (by first | rfl | (simp; done) | (simp [*]; done)), (by first | rfl | (simp; done) | (simp [*]; done)), H', ⟨by have := HK1.out; omega⟩, ⟨by exact zB HB⟩⟩
      ·
       rw [if_neg c11] at H
       have c11b0 : decide (0 < x4_1) = false := decide_eq_false c11
       clear c11
       obtain rfl := Option.some.inj H
       go_wp2
       go_ret
       exact ⟨by first | rfl | (simp [errW_none, errW_some] <;> rfl) | (simp only [← hji6]; first | rfl | (simp [errW_none, errW_some] <;> rfl)) | (simp [*, errW_none, errW_some] <;> rfl), by exact zB HB⟩
   ·
    rw [if_neg c8] at H
    exact absurd H (by simp)
  ·
   rw [if_neg c7] at H
   exact absurd H (by simp)
end Go.Proofs.Ytpjpbhjpobdenaa.PNat
