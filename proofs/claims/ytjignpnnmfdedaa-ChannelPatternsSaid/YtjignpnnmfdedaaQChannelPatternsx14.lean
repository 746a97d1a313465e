/- A part of the print of this row, cut down to what the row uses. -/
import Derived.Test.YtjignpnnmfdedaaQChannelPatternsx0
import Derived.Test.YtjignpnnmfdedaaQChannelPatternsx6
import Derived.Test.YtjignpnnmfdedaaQChannelPatternsx7
import Derived.Test.YtjignpnnmfdedaaQChannelPatternsx9
import Derived.Test.YtjignpnnmfdedaaQChannelPatternsx13
import Derived.Test.YtjignpnnmfdedaaQChannelPatternsWSq
-- printed by a scratch copy of the print, turned (wip/tools/turn_print.py)
namespace Go.Proofs.Ytjignpnnmfdedaa.PChannelPatterns
open Go.RowKit Go.Proofs.YtjignpnnmfdedaaW.PrintWords Go.Proofs.YtjignpnnmfdedaaW.PrintLast Go.Proofs.YtjignpnnmfdedaaW.PrintMore
attribute [local go_sem] max2_int min2_int max_two min_two max_three min_three max_four min_four   -- for this text's walks alone
set_option linter.unusedVariables false
set_option linter.unusedSimpArgs false
/-! ### codewrightref55_Pattern: function 21 -/
def codewrightref55_Pattern.f (k : Nat) (a0 : Int) (a1 : Int) (a2 : Int) : Option ((List (S52))) := (codewrightref02_Int.f k 0).bind fun bt706 => ((codewrightref02_Of.f k 1 (wrap64 (a0 - 1))).bind fun bt713 => ((codewrightref55_power.f k (([(⟨bt706.1, bt706.2.1, bt706.2.2⟩ : S52), (⟨bt713.1, bt713.2.1, bt713.2.2⟩ : S52)] : List (S52))) a2).bind fun t723 => ((codewrightref02_Int.f k 1).bind fun bt726 => ((codewrightref02_Int.f k (-1)).bind fun bt733 => ((codewrightref55_power.f k (([(⟨bt726.1, bt726.2.1, bt726.2.2⟩ : S52), (⟨bt733.1, bt733.2.1, bt733.2.2⟩ : S52)] : List (S52))) (wrap64 (a1 - a2))).bind fun t743 => ((codewrightref55_Mul.f k t723 t743).bind fun t746 => (some t746)))))))
set_option maxHeartbeats 8000000 in
set_option maxRecDepth 100000 in
theorem codewrightref55_Pattern.calls (k : Nat) (a0 : Int) (a1 : Int) (a2 : Int) (r : List (S52)) (w : World) (h : codewrightref55_Pattern.f k a0 a1 a2 = some r) :
  Calls Try.prog 21 #[.int .i64 a0, .int .i64 a1, .int .i64 a2] w fun e w' => ∃ v0_ : Value, e = .returned (v0_) ∧ Kd.N k52 52 w' w.heap.size (fun k_ => (w.heap.size ≤ k_)) v0_ r ∧ Below w.heap.size w w' := by
 have HB := zA (Below.refl w.heap.size w)
 have H : ((codewrightref02_Int.f k 0).bind fun bt706 => ((codewrightref02_Of.f k 1 (wrap64 (a0 - 1))).bind fun bt713 => ((codewrightref55_power.f k (([(⟨bt706.1, bt706.2.1, bt706.2.2⟩ : S52), (⟨bt713.1, bt713.2.1, bt713.2.2⟩ : S52)] : List (S52))) a2).bind fun t723 => ((codewrightref02_Int.f k 1).bind fun bt726 => ((codewrightref02_Int.f k (-1)).bind fun bt733 => ((codewrightref55_power.f k (([(⟨bt726.1, bt726.2.1, bt726.2.2⟩ : S52), (⟨bt733.1, bt733.2.1, bt733.2.2⟩ : S52)] : List (S52))) (wrap64 (a1 - a2))).bind fun t743 => ((codewrightref55_Mul.f k t723 t743).bind fun t746 => (some t746)))))))) = some r := h
 clear h
 replace H := Option.bind_eq_some_iff.mp H
 obtain ⟨⟨t706, t707, t710⟩, A40, H⟩ := H
 replace H : ((codewrightref02_Of.f k 1 (wrap64 (a0 - 1))).bind fun bt713 => ((codewrightref55_power.f k (([(⟨t706, t707, t710⟩ : S52), (⟨bt713.1, bt713.2.1, bt713.2.2⟩ : S52)] : List (S52))) a2).bind fun t723 => ((codewrightref02_Int.f k 1).bind fun bt726 => ((codewrightref02_Int.f k (-1)).bind fun bt733 => ((codewrightref55_power.f k (([(⟨bt726.1, bt726.2.1, bt726.2.2⟩ : S52), (⟨bt733.1, bt733.2.1, bt733.2.2⟩ : S52)] : List (S52))) (wrap64 (a1 - a2))).bind fun t743 => ((codewrightref55_Mul.f k t723 t743).bind fun t746 => (some t746))))))) = some r := H
 have A4 := zA A40
 clear A40
 replace H := Option.bind_eq_some_iff.mp H
 obtain ⟨⟨t713, t714, t717⟩, A50, H⟩ := H
 replace H : ((codewrightref55_power.f k (([(⟨t706, t707, t710⟩ : S52), (⟨t713, t714, t717⟩ : S52)] : List (S52))) a2).bind fun t723 => ((codewrightref02_Int.f k 1).bind fun bt726 => ((codewrightref02_Int.f k (-1)).bind fun bt733 => ((codewrightref55_power.f k (([(⟨bt726.1, bt726.2.1, bt726.2.2⟩ : S52), (⟨bt733.1, bt733.2.1, bt733.2.2⟩ : S52)] : List (S52))) (wrap64 (a1 - a2))).bind fun t743 => ((codewrightref55_Mul.f k t723 t743).bind fun t746 => (some t746)))))) = some r := H
 have A5 := zA A50
 clear A50
 obtain ⟨y720, hy720⟩ : ∃ y_ : List (S52), y_ = (([(⟨t706, t707, t710⟩ : S52), (⟨t713, t714, t717⟩ : S52)] : List (S52))) := ⟨_, rfl⟩
 replace H : ((codewrightref55_power.f k y720 a2).bind fun t723 => ((codewrightref02_Int.f k 1).bind fun bt726 => ((codewrightref02_Int.f k (-1)).bind fun bt733 => ((codewrightref55_power.f k (([(⟨bt726.1, bt726.2.1, bt726.2.2⟩ : S52), (⟨bt733.1, bt733.2.1, bt733.2.2⟩ : S52)] : List (S52))) (wrap64 (a1 - a2))).bind fun t743 => ((codewrightref55_Mul.f k t723 t743).bind fun t746 => (some t746)))))) = some r := by first | (rw [hy720]; with_reducible exact H) | (have H := (Option.bind_some _ _).symm.trans H; first | (rw [hy720]; with_reducible exact H) | with_reducible exact H) | (rw [hy720]; exact H) | exact H
 have Ny720 := zA hy720
 clear hy720
 replace H := Option.bind_eq_some_iff.mp H
 obtain ⟨t723, A60, H⟩ := H
 replace H : ((codewrightref02_Int.f k 1).bind fun bt726 => ((codewrightref02_Int.f k (-1)).bind fun bt733 => ((codewrightref55_power.f k (([(⟨bt726.1, bt726.2.1, bt726.2.2⟩ : S52), (⟨bt733.1, bt733.2.1, bt733.2.2⟩ : S52)] : List (S52))) (wrap64 (a1 - a2))).bind fun t743 => ((codewrightref55_Mul.f k t723 t743).bind fun t746 => (some t746))))) = some r := H
 have A6 := zA A60
 clear A60
 replace H := Option.bind_eq_some_iff.mp H
 obtain ⟨⟨t726, t727, t730⟩, A70, H⟩ := H
 replace H : ((codewrightref02_Int.f k (-1)).bind fun bt733 => ((codewrightref55_power.f k (([(⟨t726, t727, t730⟩ : S52), (⟨bt733.1, bt733.2.1, bt733.2.2⟩ : S52)] : List (S52))) (wrap64 (a1 - a2))).bind fun t743 => ((codewrightref55_Mul.f k t723 t743).bind fun t746 => (some t746)))) = some r := H
 have A7 := zA A70
 clear A70
 replace H := Option.bind_eq_some_iff.mp H
 obtain ⟨⟨t733, t734, t737⟩, A80, H⟩ := H
 replace H : ((codewrightref55_power.f k (([(⟨t726, t727, t730⟩ : S52), (⟨t733, t734, t737⟩ : S52)] : List (S52))) (wrap64 (a1 - a2))).bind fun t743 => ((codewrightref55_Mul.f k t723 t743).bind fun t746 => (some t746))) = some r := H
 have A8 := zA A80
 clear A80
 obtain ⟨y740, hy740⟩ : ∃ y_ : List (S52), y_ = (([(⟨t726, t727, t730⟩ : S52), (⟨t733, t734, t737⟩ : S52)] : List (S52))) := ⟨_, rfl⟩
 replace H : ((codewrightref55_power.f k y740 (wrap64 (a1 - a2))).bind fun t743 => ((codewrightref55_Mul.f k t723 t743).bind fun t746 => (some t746))) = some r := by first | (rw [hy740]; with_reducible exact H) | (have H := (Option.bind_some _ _).symm.trans H; first | (rw [hy740]; with_reducible exact H) | with_reducible exact H) | (rw [hy740]; exact H) | exact H
 have Ny740 := zA hy740
 clear hy740
 replace H := Option.bind_eq_some_iff.mp H
 obtain ⟨t743, A90, H⟩ := H
 replace H : ((codewrightref55_Mul.f k t723 t743).bind fun t746 => (some t746)) = some r := H
 have A9 := zA A90
 clear A90
 replace H := Option.bind_eq_some_iff.mp H
 obtain ⟨t746, A100, H⟩ := H
 replace H : (some t746) = some r := H
 have A10 := zA A100
 clear A100
 obtain rfl := Option.some.inj H
 go_enter Try.func21, Try.ntmps21
 go_wp2_with (first | ((with_reducible refine gate_callee (f := 42) rfl ?_); refine goesL_ (some 7) rfl rfl Try.func42 (by kernel_rfl) rfl #[.int .i64 0] rfl (by (try simp only [List.map_toArray, List.map_cons, List.map_nil]); first | done | rfl | (simp only [List.length_drop, List.length_take]; rfl)) ?_; (with_reducible refine (codewrightref02_Int.calls k 0 t706 t707 t710 _ A4.out).mono ?_); rintro e w11 ⟨v708, v711, rfl, ho0, ho1, hb⟩; refine ⟨_, rfl, ?_⟩; have HO709 := zA (Kd.R_lower (Kd.R_newM (M := fun k_ => (w.heap.size ≤ k_)) ho0 (below_size (by exact zB HB)) (fun k_ h_ => h_)) (below_size (by exact zB HB))); have HO712 := zA (Kd.R_lower (Kd.R_newM (M := fun k_ => (w.heap.size ≤ k_)) ho1 (below_size (by exact zB HB)) (fun k_ h_ => h_)) (below_size (by exact zB HB))); replace HB := zA (below_step (by exact zB HB) hb); (try clear hb ho0 ho1)) | ((with_reducible refine gate_callee (f := 63) rfl ?_); refine goesL_ (some 10) rfl rfl Try.func63 (by kernel_rfl) rfl #[.int .i64 1, .int .i64 (wrap64 (a0 - 1))] rfl (by (try simp only [List.map_toArray, List.map_cons, List.map_nil]); first | done | rfl | (simp only [List.length_drop, List.length_take]; rfl)) ?_; (with_reducible refine (codewrightref02_Of.calls k 1 (wrap64 (a0 - 1)) t713 t714 t717 _ A5.out).mono ?_); rintro e w12 ⟨v715, v718, rfl, ho0, ho1, hb⟩; refine ⟨_, rfl, ?_⟩; have HO716 := zA (Kd.R_lower (Kd.R_new' (Kd.R_new' (Kd.R_newM (M := fun k_ => (w.heap.size ≤ k_)) ho0 (below_size (by exact zB HB)) (fun k_ h_ => h_)) (Kd.R_lt (by exact zR HO709))) (Kd.R_lt (by exact zR HO712))) (below_size (by exact zB HB))); have HO719 := zA (Kd.R_lower (Kd.R_new' (Kd.R_new' (Kd.R_newM (M := fun k_ => (w.heap.size ≤ k_)) ho1 (below_size (by exact zB HB)) (fun k_ h_ => h_)) (Kd.R_lt (by exact zR HO709))) (Kd.R_lt (by exact zR HO712))) (below_size (by exact zB HB))); replace HO709 := zA (Kd.R_mono (Kd.R_told (Kd.R_told (Kd.R_old (by exact zR HO709) hb) (Kd.R_base ho0)) (Kd.R_base ho1)) (fun _ h_ => h_.1)); replace HO712 := zA (Kd.R_mono (Kd.R_told (Kd.R_told (Kd.R_old (by exact zR HO712) hb) (Kd.R_base ho0)) (Kd.R_base ho1)) (fun _ h_ => h_.1)); replace HB := zA (below_step (by exact zB HB) hb); (try clear hb ho0 ho1); obtain ⟨Ao13, co13, eo13⟩ := Kd.R_slice HO709.out; subst eo13; obtain ⟨Ao14, co14, eo14⟩ := Kd.R_slice HO712.out; subst eo14; obtain ⟨Ao15, co15, eo15⟩ := Kd.R_slice HO716.out; subst eo15; obtain ⟨Ao16, co16, eo16⟩ := Kd.R_slice HO719.out; subst eo16) | ((with_reducible refine gate_dst (N := 11) rfl ?_); refine Kd.N_lit k52 _ 52 ?hg (N' := 11) ?hd (xs := ([(⟨t706, t707, t710⟩ : S52), (⟨t713, t714, t717⟩ : S52)] : List (S52))) (inner := [.bool t706, .slice Ao13 t707.length co13, .slice Ao14 t710.length co14, .bool t713, .slice Ao15 t714.length co15, .slice Ao16 t717.length co16]) (ok := (fun k_ => (w.heap.size ≤ k_))) (okp := (fun k_ => (w.heap.size ≤ k_))) ?hr ?hp (fun _ hk => hk) ((show ∀ k_, w12.heap.size ≤ k_ → (fun k_ => (w.heap.size ≤ k_)) k_ from fun k_ hk => (Nat.le_trans (below_size (by exact zB HB)) hk)) _ (Nat.le_refl _)) (Below.refl _ _) (Nat.le_refl _) (by simp) ?_; (case hd => rfl); (case hg => rfl); (case hr => first | (go_simp; done) | (go_simp; rfl)); (case hp => exact (Reps.c3 (show Kd.FK k52 _ _ (⟨t706, t707, t710⟩ : S52) [.bool t706, .slice Ao13 t707.length co13, .slice Ao14 t710.length co14] from (k52_mkF _ _ (⟨t706, t707, t710⟩ : S52) (Kd.R_reads' (Kd.R_mono (ok' := (fun k_ => (w.heap.size ≤ k_))) (HO709.out) (fun k_ hk => hk.1.1.1))).2.1 (Kd.R_F (Kd.R_mono (ok' := (fun k_ => (w.heap.size ≤ k_))) (HO709.out) (fun k_ hk => hk.1.1.1))) (Kd.R_reads' (Kd.R_mono (ok' := (fun k_ => (w.heap.size ≤ k_))) (HO712.out) (fun k_ hk => hk.1.1.1))).2.1 (Kd.R_F (Kd.R_mono (ok' := (fun k_ => (w.heap.size ≤ k_))) (HO712.out) (fun k_ hk => hk.1.1.1))))) (Reps.c3 (show Kd.FK k52 _ _ (⟨t713, t714, t717⟩ : S52) [.bool t713, .slice Ao15 t714.length co15, .slice Ao16 t717.length co16] from (k52_mkF _ _ (⟨t713, t714, t717⟩ : S52) (Kd.R_reads' (Kd.R_mono (ok' := (fun k_ => (w.heap.size ≤ k_))) (HO716.out) (fun k_ hk => hk.1.1.1))).2.1 (Kd.R_F (Kd.R_mono (ok' := (fun k_ => (w.heap.size ≤ k_))) (HO716.out) (fun k_ hk => hk.1.1.1))) (Kd.R_reads' (Kd.R_mono (ok' := (fun k_ => (w.heap.size ≤ k_))) (HO719.out) (fun k_ hk => hk.1.1.1))).2.1 (Kd.R_F (Kd.R_mono (ok' := (fun k_ => (w.heap.size ≤ k_))) (HO719.out) (fun k_ hk => hk.1.1.1))))) (Reps.none _ _)))); intro v721 w17 ho18 hb hg_ hnew_; clear hg_ hnew_; (first | rw [← Ny720.out] at ho18 | (simp only [Int.reduceToNat] at ho18; rw [← Ny720.out] at ho18)); have n0_ := zA (Kd.N_lower ho18 (below_size (by exact zB HB))); have n1_ := zA (below_step (by exact zB HB) hb); clear HB; clear HO709; clear HO712; clear HO716; clear HO719; have HO722 := n0_; have HB := n1_; clear n0_ n1_; clear hb ho18; obtain ⟨Ao19, co19, eo19⟩ := Kd.N_slice HO722.out; subst eo19) | ((with_reducible refine gate_callee (f := 62) rfl ?_); refine goesL_ (some 13) rfl rfl Try.func62 (by kernel_rfl) rfl #[.slice Ao19 y720.length co19, .int .i64 a2] rfl (by (try simp only [List.map_toArray, List.map_cons, List.map_nil]); first | done | rfl | (simp only [List.length_drop, List.length_take]; rfl)) ?_; (with_reducible refine (codewrightref55_power.calls k _ _ y720 a2 t723 _ ?side1 ?side2 A6.out).mono ?_); (case side1 => exact zC ((Kd.N_reads' HO722.out).2.2)); (case side2 => exact (Kd.N_reads' HO722.out).2.1); rintro e w20 ⟨v724, rfl, ho0, hb⟩; refine ⟨_, rfl, ?_⟩; have HO725 := zA (Kd.N_lower (Kd.N_mono (ok' := fun k_ => (w.heap.size ≤ k_) ∧ some k_ ≠ (.slice Ao19 y720.length co19 : Value).ownBlock) ho0 (fun k_ hk_ => ⟨(Nat.le_trans (below_size (by exact zB HB)) hk_), (Kd.fresh' (Kd.N_lt (by exact zN HO722)) k_ hk_)⟩)) (below_size (by exact zB HB))); replace HO722 := zA (Kd.N_elder' (by exact zN HO722) (Kd.N_base ho0) hb); replace HB := zA (below_step (by exact zB HB) hb); (try clear hb ho0)) | ((with_reducible refine gate_callee (f := 42) rfl ?_); refine goesL_ (some 14) rfl rfl Try.func42 (by kernel_rfl) rfl #[.int .i64 1] rfl (by (try simp only [List.map_toArray, List.map_cons, List.map_nil]); first | done | rfl | (simp only [List.length_drop, List.length_take]; rfl)) ?_; (with_reducible refine (codewrightref02_Int.calls k 1 t726 t727 t730 _ A7.out).mono ?_); rintro e w21 ⟨v728, v731, rfl, ho0, ho1, hb⟩; refine ⟨_, rfl, ?_⟩; replace HO722 := zA (Kd.N_mono (Kd.N_told (Kd.N_told (Kd.N_old (by exact zN HO722) hb) (Kd.R_base ho0)) (Kd.R_base ho1)) (fun _ h_ => h_.1)); replace HO725 := zA (Kd.N_mono (Kd.N_told (Kd.N_told (Kd.N_old (by exact zN HO725) hb) (Kd.R_base ho0)) (Kd.R_base ho1)) (fun _ h_ => h_.1)); have HO729 := zA (Kd.R_lower (Kd.R_newM (M := fun k_ => (w.heap.size ≤ k_)) ho0 (below_size (by exact zB HB)) (fun k_ h_ => h_)) (below_size (by exact zB HB))); have HO732 := zA (Kd.R_lower (Kd.R_newM (M := fun k_ => (w.heap.size ≤ k_)) ho1 (below_size (by exact zB HB)) (fun k_ h_ => h_)) (below_size (by exact zB HB))); replace HB := zA (below_step (by exact zB HB) hb); (try clear hb ho0 ho1)) | ((with_reducible refine gate_callee (f := 42) rfl ?_); refine goesL_ (some 15) rfl rfl Try.func42 (by kernel_rfl) rfl #[.int .i64 (-1)] rfl (by (try simp only [List.map_toArray, List.map_cons, List.map_nil]); first | done | rfl | (simp only [List.length_drop, List.length_take]; rfl)) ?_; (with_reducible refine (codewrightref02_Int.calls k (-1) t733 t734 t737 _ A8.out).mono ?_); rintro e w22 ⟨v735, v738, rfl, ho0, ho1, hb⟩; refine ⟨_, rfl, ?_⟩; replace HO722 := zA (Kd.N_mono (Kd.N_told (Kd.N_told (Kd.N_old (by exact zN HO722) hb) (Kd.R_base ho0)) (Kd.R_base ho1)) (fun _ h_ => h_.1)); replace HO725 := zA (Kd.N_mono (Kd.N_told (Kd.N_told (Kd.N_old (by exact zN HO725) hb) (Kd.R_base ho0)) (Kd.R_base ho1)) (fun _ h_ => h_.1)); have HO736 := zA (Kd.R_lower (Kd.R_new' (Kd.R_new' (Kd.R_newM (M := fun k_ => (w.heap.size ≤ k_)) ho0 (below_size (by exact zB HB)) (fun k_ h_ => h_)) (Kd.R_lt (by exact zR HO729))) (Kd.R_lt (by exact zR HO732))) (below_size (by exact zB HB))); have HO739 := zA (Kd.R_lower (Kd.R_new' (Kd.R_new' (Kd.R_newM (M := fun k_ => (w.heap.size ≤ k_)) ho1 (below_size (by exact zB HB)) (fun k_ h_ => h_)) (Kd.R_lt (by exact zR HO729))) (Kd.R_lt (by exact zR HO732))) (below_size (by exact zB HB))); replace HO729 := zA (Kd.R_mono (Kd.R_told (Kd.R_told (Kd.R_old (by exact zR HO729) hb) (Kd.R_base ho0)) (Kd.R_base ho1)) (fun _ h_ => h_.1)); replace HO732 := zA (Kd.R_mono (Kd.R_told (Kd.R_told (Kd.R_old (by exact zR HO732) hb) (Kd.R_base ho0)) (Kd.R_base ho1)) (fun _ h_ => h_.1)); replace HB := zA (below_step (by exact zB HB) hb); (try clear hb ho0 ho1); obtain ⟨Ao23, co23, eo23⟩ := Kd.R_slice HO729.out; subst eo23; obtain ⟨Ao24, co24, eo24⟩ := Kd.R_slice HO732.out; subst eo24; obtain ⟨Ao25, co25, eo25⟩ := Kd.R_slice HO736.out; subst eo25; obtain ⟨Ao26, co26, eo26⟩ := Kd.R_slice HO739.out; subst eo26) | ((with_reducible refine gate_dst (N := 16) rfl ?_); refine Kd.N_lit k52 _ 52 ?hg (N' := 16) ?hd (xs := ([(⟨t726, t727, t730⟩ : S52), (⟨t733, t734, t737⟩ : S52)] : List (S52))) (inner := [.bool t726, .slice Ao23 t727.length co23, .slice Ao24 t730.length co24, .bool t733, .slice Ao25 t734.length co25, .slice Ao26 t737.length co26]) (ok := (fun k_ => (w.heap.size ≤ k_) ∧ some k_ ≠ (.slice Ao19 y720.length co19 : Value).ownBlock ∧ some k_ ≠ (v724 : Value).ownBlock)) (okp := (fun k_ => (w.heap.size ≤ k_) ∧ some k_ ≠ (.slice Ao19 y720.length co19 : Value).ownBlock ∧ some k_ ≠ (v724 : Value).ownBlock)) ?hr ?hp (fun _ hk => hk) ((show ∀ k_, w22.heap.size ≤ k_ → (fun k_ => (w.heap.size ≤ k_) ∧ some k_ ≠ (.slice Ao19 y720.length co19 : Value).ownBlock ∧ some k_ ≠ (v724 : Value).ownBlock) k_ from fun k_ hk => ⟨(Nat.le_trans (below_size (by exact zB HB)) hk), Kd.fresh' (Kd.N_lt (by exact zN HO722)) k_ hk, Kd.fresh' (Kd.N_lt (by exact zN HO725)) k_ hk⟩) _ (Nat.le_refl _)) (Below.refl _ _) (Nat.le_refl _) (by simp) ?_; (case hd => rfl); (case hg => rfl); (case hr => first | (go_simp; done) | (go_simp; rfl)); (case hp => exact (Reps.c3 (show Kd.FK k52 _ _ (⟨t726, t727, t730⟩ : S52) [.bool t726, .slice Ao23 t727.length co23, .slice Ao24 t730.length co24] from (k52_mkF _ _ (⟨t726, t727, t730⟩ : S52) (Kd.R_reads' (Kd.R_mono (ok' := (fun k_ => (w.heap.size ≤ k_) ∧ some k_ ≠ (.slice Ao19 y720.length co19 : Value).ownBlock ∧ some k_ ≠ (v724 : Value).ownBlock)) (Kd.R_apart' (Kd.R_apart' (HO729.out) (Kd.N_typed HO722.out) (by decide)) (Kd.N_typed HO725.out) (by decide)) (fun k_ hk => ⟨hk.1.1.1.1.1, ⟨hk.1.2, hk.2⟩⟩))).2.1 (Kd.R_F (Kd.R_mono (ok' := (fun k_ => (w.heap.size ≤ k_) ∧ some k_ ≠ (.slice Ao19 y720.length co19 : Value).ownBlock ∧ some k_ ≠ (v724 : Value).ownBlock)) (Kd.R_apart' (Kd.R_apart' (HO729.out) (Kd.N_typed HO722.out) (by decide)) (Kd.N_typed HO725.out) (by decide)) (fun k_ hk => ⟨hk.1.1.1.1.1, ⟨hk.1.2, hk.2⟩⟩))) (Kd.R_reads' (Kd.R_mono (ok' := (fun k_ => (w.heap.size ≤ k_) ∧ some k_ ≠ (.slice Ao19 y720.length co19 : Value).ownBlock ∧ some k_ ≠ (v724 : Value).ownBlock)) (Kd.R_apart' (Kd.R_apart' (HO732.out) (Kd.N_typed HO722.out) (by decide)) (Kd.N_typed HO725.out) (by decide)) (fun k_ hk => ⟨hk.1.1.1.1.1, ⟨hk.1.2, hk.2⟩⟩))).2.1 (Kd.R_F (Kd.R_mono (ok' := (fun k_ => (w.heap.size ≤ k_) ∧ some k_ ≠ (.slice Ao19 y720.length co19 : Value).ownBlock ∧ some k_ ≠ (v724 : Value).ownBlock)) (Kd.R_apart' (Kd.R_apart' (HO732.out) (Kd.N_typed HO722.out) (by decide)) (Kd.N_typed HO725.out) (by decide)) (fun k_ hk => ⟨hk.1.1.1.1.1, ⟨hk.1.2, hk.2⟩⟩))))) (Reps.c3 (show Kd.FK k52 _ _ (⟨t733, t734, t737⟩ : S52) [.bool t733, .slice Ao25 t734.length co25, .slice Ao26 t737.length co26] from (k52_mkF _ _ (⟨t733, t734, t737⟩ : S52) (Kd.R_reads' (Kd.R_mono (ok' := (fun k_ => (w.heap.size ≤ k_) ∧ some k_ ≠ (.slice Ao19 y720.length co19 : Value).ownBlock ∧ some k_ ≠ (v724 : Value).ownBlock)) (Kd.R_apart' (Kd.R_apart' (HO736.out) (Kd.N_typed HO722.out) (by decide)) (Kd.N_typed HO725.out) (by decide)) (fun k_ hk => ⟨hk.1.1.1.1.1, ⟨hk.1.2, hk.2⟩⟩))).2.1 (Kd.R_F (Kd.R_mono (ok' := (fun k_ => (w.heap.size ≤ k_) ∧ some k_ ≠ (.slice Ao19 y720.length co19 : Value).ownBlock ∧ some k_ ≠ (v724 : Value).ownBlock)) (Kd.R_apart' (Kd.R_apart' (HO736.out) (Kd.N_typed HO722.out) (by decide)) (Kd.N_typed HO725.out) (by decide)) (fun k_ hk => ⟨hk.1.1.1.1.1, ⟨hk.1.2, hk.2⟩⟩))) (Kd.R_reads' (Kd.R_mono (ok' := (fun k_ => (w.heap.size ≤ k_) ∧ some k_ ≠ (.slice Ao19 y720.length co19 : Value).ownBlock ∧ some k_ ≠ (v724 : Value).ownBlock)) (Kd.R_apart' (Kd.R_apart' (HO739.out) (Kd.N_typed HO722.out) (by decide)) (Kd.N_typed HO725.out) (by decide)) (fun k_ hk => ⟨hk.1.1.1.1.1, ⟨hk.1.2, hk.2⟩⟩))).2.1 (Kd.R_F (Kd.R_mono (ok' := (fun k_ => (w.heap.size ≤ k_) ∧ some k_ ≠ (.slice Ao19 y720.length co19 : Value).ownBlock ∧ some k_ ≠ (v724 : Value).ownBlock)) (Kd.R_apart' (Kd.R_apart' (HO739.out) (Kd.N_typed HO722.out) (by decide)) (Kd.N_typed HO725.out) (by decide)) (fun k_ hk => ⟨hk.1.1.1.1.1, ⟨hk.1.2, hk.2⟩⟩))))) (Reps.none _ _)))); intro v741 w27 ho28 hb hg_ hnew_; clear hg_ hnew_; (first | rw [← Ny740.out] at ho28 | (simp only [Int.reduceToNat] at ho28; rw [← Ny740.out] at ho28)); have n0_ := zA (Kd.N_elder' (by exact zN HO722) (Kd.N_base ho28) hb); have n1_ := zA (Kd.N_elder' (by exact zN HO725) (Kd.N_base ho28) hb); have n2_ := zA (Kd.N_lower ho28 (below_size (by exact zB HB))); have n3_ := zA (below_step (by exact zB HB) hb); clear HO722; clear HO725; clear HB; clear HO729; clear HO732; clear HO736; clear HO739; have HO722 := n0_; have HO725 := n1_; have HO742 := n2_; have HB := n3_; clear n0_ n1_ n2_ n3_; clear hb ho28; obtain ⟨Ao29, co29, eo29⟩ := Kd.N_slice HO742.out; subst eo29) | ((with_reducible refine gate_callee (f := 62) rfl ?_); refine goesL_ (some 20) rfl rfl Try.func62 (by kernel_rfl) rfl #[.slice Ao29 y740.length co29, .int .i64 (wrap64 (a1 - a2))] rfl (by (try simp only [List.map_toArray, List.map_cons, List.map_nil]); first | done | rfl | (simp only [List.length_drop, List.length_take]; rfl)) ?_; (with_reducible refine (codewrightref55_power.calls k _ _ y740 (wrap64 (a1 - a2)) t743 _ ?side1 ?side2 A9.out).mono ?_); (case side1 => exact zC ((Kd.N_reads' HO742.out).2.2)); (case side2 => exact (Kd.N_reads' HO742.out).2.1); rintro e w30 ⟨v744, rfl, ho0, hb⟩; refine ⟨_, rfl, ?_⟩; have HO745 := zA (Kd.N_lower (Kd.N_mono (ok' := fun k_ => (w.heap.size ≤ k_) ∧ some k_ ≠ (.slice Ao19 y720.length co19 : Value).ownBlock ∧ some k_ ≠ (v724 : Value).ownBlock ∧ some k_ ≠ (.slice Ao29 y740.length co29 : Value).ownBlock) ho0 (fun k_ hk_ => ⟨(Nat.le_trans (below_size (by exact zB HB)) hk_), (Kd.fresh' (Kd.N_lt (by exact zN HO722)) k_ hk_), (Kd.fresh' (Kd.N_lt (by exact zN HO725)) k_ hk_), (Kd.fresh' (Kd.N_lt (by exact zN HO742)) k_ hk_)⟩)) (below_size (by exact zB HB))); replace HO722 := zA (Kd.N_elder' (by exact zN HO722) (Kd.N_base ho0) hb); replace HO725 := zA (Kd.N_elder' (by exact zN HO725) (Kd.N_base ho0) hb); replace HO742 := zA (Kd.N_elder' (by exact zN HO742) (Kd.N_base ho0) hb); replace HB := zA (below_step (by exact zB HB) hb); (try clear hb ho0); obtain ⟨Ao31, co31, eo31⟩ := Kd.N_slice HO725.out; subst eo31; obtain ⟨Ao32, co32, eo32⟩ := Kd.N_slice HO745.out; subst eo32) | ((with_reducible refine gate_callee (f := 36) rfl ?_); refine goesL_ (some 21) rfl rfl Try.func36 (by kernel_rfl) rfl #[.slice Ao31 t723.length co31, .slice Ao32 t743.length co32] rfl (by (try simp only [List.map_toArray, List.map_cons, List.map_nil]); first | done | rfl | (simp only [List.length_drop, List.length_take]; rfl)) ?_; (with_reducible refine (codewrightref55_Mul.calls k _ _ t723 _ _ t743 t746 _ ?side1 ?side2 ?side3 ?side4 A10.out).mono ?_); (case side1 => exact zC ((Kd.N_reads' HO725.out).2.2)); (case side2 => exact (Kd.N_reads' HO725.out).2.1); (case side3 => exact zC ((Kd.N_reads' HO745.out).2.2)); (case side4 => exact (Kd.N_reads' HO745.out).2.1); rintro e w33 ⟨v747, rfl, ho0, hb⟩; refine ⟨_, rfl, ?_⟩; have HO748 := zA (Kd.N_lower (Kd.N_mono (ok' := fun k_ => (w.heap.size ≤ k_) ∧ some k_ ≠ (.slice Ao19 y720.length co19 : Value).ownBlock ∧ some k_ ≠ (.slice Ao31 t723.length co31 : Value).ownBlock ∧ some k_ ≠ (.slice Ao29 y740.length co29 : Value).ownBlock ∧ some k_ ≠ (.slice Ao32 t743.length co32 : Value).ownBlock) ho0 (fun k_ hk_ => ⟨(Nat.le_trans (below_size (by exact zB HB)) hk_), (Kd.fresh' (Kd.N_lt (by exact zN HO722)) k_ hk_), (Kd.fresh' (Kd.N_lt (by exact zN HO725)) k_ hk_), (Kd.fresh' (Kd.N_lt (by exact zN HO742)) k_ hk_), (Kd.fresh' (Kd.N_lt (by exact zN HO745)) k_ hk_)⟩)) (below_size (by exact zB HB))); replace HO722 := zA (Kd.N_elder' (by exact zN HO722) (Kd.N_base ho0) hb); replace HO725 := zA (Kd.N_elder' (by exact zN HO725) (Kd.N_base ho0) hb); replace HO742 := zA (Kd.N_elder' (by exact zN HO742) (Kd.N_base ho0) hb); replace HO745 := zA (Kd.N_elder' (by exact zN HO745) (Kd.N_base ho0) hb); replace HB := zA (below_step (by exact zB HB) hb); (try clear hb ho0)))
 go_ret
 exact ⟨_, by first | rfl | (simp [errW_none, errW_some] <;> rfl) | (simp [*, errW_none, errW_some] <;> rfl), by (with_reducible repeat (first | apply Kd.N_alloc | apply Kd.N_drewN | apply Kd.N_drew)); exact Kd.N_mono HO748.out (fun _ hk => hk.1), by exact zB HB⟩
/-! ### codewrightlaw55_ChannelPatterns: function 4 -/
mutual
def codewrightlaw55_ChannelPatterns.j0 : Nat → Int → Int → Int → Bool → Option (Bool)
 | 0, _, _, _, _ => none
 | k + 1, x0, x1, x2, x14 => if x14 = true then (some true) else ((channel_Pattern.f k x0 x1 x2).bind fun bt749 => (if x0 < 2 then (codewrightlaw55_ChannelPatterns.j1 k x0 x1 x2 bt749.1 bt749.2 true) else (if x0 > 256 then (codewrightlaw55_ChannelPatterns.j1 k x0 x1 x2 bt749.1 bt749.2 true) else (if x1 < 0 then (codewrightlaw55_ChannelPatterns.j1 k x0 x1 x2 bt749.1 bt749.2 true) else (if x1 > 64 then (codewrightlaw55_ChannelPatterns.j1 k x0 x1 x2 bt749.1 bt749.2 true) else (if x2 < 0 then (codewrightlaw55_ChannelPatterns.j1 k x0 x1 x2 bt749.1 bt749.2 true) else (codewrightlaw55_ChannelPatterns.j1 k x0 x1 x2 bt749.1 bt749.2 (decide (x2 > x1)))))))))
def codewrightlaw55_ChannelPatterns.j1 : Nat → Int → Int → Int → List (S52) → Int → Bool → Option (Bool)
 | 0, _, _, _, _, _, _ => none
 | k + 1, x0, x1, x2, x7, x8, x44 => if x44 = true then (if x8 = 6 then (some ((x7.length : Int) == 0)) else (some false)) else (if x1 > 16 then (some true) else (if x8 = 0 then ((codewrightref55_Pattern.f k x0 x1 x2).bind fun t753 => ((codewrightlaw55_same.f k x7 t753).bind fun t756 => (some t756))) else (some false)))
end
def codewrightlaw55_ChannelPatterns.f (k : Nat) (a0 : Int) (a1 : Int) (a2 : Int) : Option (Bool) := if a1 > 16 then (codewrightlaw55_ChannelPatterns.j0 k a0 a1 a2 (decide (a1 ≤ 64))) else (codewrightlaw55_ChannelPatterns.j0 k a0 a1 a2 false)
set_option maxHeartbeats 8000000 in
set_option maxRecDepth 100000 in
theorem codewrightlaw55_ChannelPatterns.calls (k : Nat) (a0 : Int) (a1 : Int) (a2 : Int) (r : Bool) (w : World) (h : codewrightlaw55_ChannelPatterns.f k a0 a1 a2 = some r) :
  Calls Try.prog 4 #[.int .i64 a0, .int .i64 a1, .int .i64 a2] w fun e w' => e = .returned (.bool r) ∧ Below w.heap.size w w' := by
 have HB := zA (Below.refl w.heap.size w)
 have H : (if a1 > 16 then (codewrightlaw55_ChannelPatterns.j0 k a0 a1 a2 (decide (a1 ≤ 64))) else (codewrightlaw55_ChannelPatterns.j0 k a0 a1 a2 false)) = some r := h
 clear h
 have HC4 := zA H
 clear H
 go_enter Try.func4, Try.ntmps4
 go_upto_region 1 with (fail)
 go_cut [14] (fun v14 wc => ∃ (kq : Nat) (x14_3 : Bool), v14 = .bool x14_3 ∧ Aside0 (codewrightlaw55_ChannelPatterns.j0 kq a0 a1 a2 x14_3 = some r) ∧ Aside0 (kq ≤ k) ∧ Aside0 (Below w.heap.size w wc))
 case first =>
  have H := HC4.out
  clear HC4
  by_cases c5 : a1 > 16
  ·
   rw [if_pos c5] at H
   have c5b0 : decide (16 < a1) = true := decide_eq_true c5
   clear c5
   (first | rw [c5b0] | (simp only [i64_w, i32_w]; rw [c5b0]) | rw [c5b1] | rw [c5b2] | skip)
   have H' := zA H
   clear H
   go_wp2
   go_meet
   case rel => exact ⟨_, (decide (a1 ≤ 64)), (by first | rfl | (simp; done) | (simp [*]; done)), H', ⟨by first | omega | exact Nat.le_refl _⟩, ⟨by exact zB HB⟩⟩
  ·
   rw [if_neg c5] at H
   have c5b0 : decide (16 < a1) = false := decide_eq_false c5
   clear c5
   (first | rw [c5b0] | (simp only [i64_w, i32_w]; rw [c5b0]) | rw [c5b1] | rw [c5b2] | skip)
   have H' := zA H
   clear H
   go_wp2
   go_meet
   case rel => exact ⟨_, (false), (by first | rfl | (simp; done) | (simp [*]; done)), H', ⟨by first | omega | exact Nat.le_refl _⟩, ⟨by exact zB HB⟩⟩
 case rest =>
  clear HC4
  try clear p2
  try clear c4
  try clear c5
  try clear c5b0
  obtain ⟨kq, x14_3, rfl, HA, HJ3, HB⟩ := hcut
  cases kq with
  | zero => exact absurd HA.out (by simp [codewrightlaw55_ChannelPatterns.j0])
  | succ kj3 =>
   have H := HA.out
   clear HA
   simp only [codewrightlaw55_ChannelPatterns.j0] at H
   by_cases c6 : x14_3 = true
   ·
    subst c6
    have H1 : (some true) = some r := by rw [if_pos rfl] at H; exact H
    clear H
    have H := H1
    clear H1
    obtain rfl := Option.some.inj H
    go_wp2
    go_ret
    exact ⟨by first | rfl | (simp [errW_none, errW_some] <;> rfl) | (simp [*, errW_none, errW_some] <;> rfl), by exact zB HB⟩
   ·
    replace c6 := Bool.eq_false_iff.mpr c6
    subst c6
    have H1 : ((channel_Pattern.f kj3 a0 a1 a2).bind fun bt749 => (if a0 < 2 then (codewrightlaw55_ChannelPatterns.j1 kj3 a0 a1 a2 bt749.1 bt749.2 true) else (if a0 > 256 then (codewrightlaw55_ChannelPatterns.j1 kj3 a0 a1 a2 bt749.1 bt749.2 true) else (if a1 < 0 then (codewrightlaw55_ChannelPatterns.j1 kj3 a0 a1 a2 bt749.1 bt749.2 true) else (if a1 > 64 then (codewrightlaw55_ChannelPatterns.j1 kj3 a0 a1 a2 bt749.1 bt749.2 true) else (if a2 < 0 then (codewrightlaw55_ChannelPatterns.j1 kj3 a0 a1 a2 bt749.1 bt749.2 true) else (codewrightlaw55_ChannelPatterns.j1 kj3 a0 a1 a2 bt749.1 bt749.2 (decide (a2 > a1))))))))) = some r := by rw [if_neg (show ¬ (false = true) by decide)] at H; exact H
    clear H
    have H := H1
    clear H1
    replace H := Option.bind_eq_some_iff.mp H
    obtain ⟨⟨t749, t752⟩, A70, H⟩ := H
    replace H : (if a0 < 2 then (codewrightlaw55_ChannelPatterns.j1 kj3 a0 a1 a2 t749 t752 true) else (if a0 > 256 then (codewrightlaw55_ChannelPatterns.j1 kj3 a0 a1 a2 t749 t752 true) else (if a1 < 0 then (codewrightlaw55_ChannelPatterns.j1 kj3 a0 a1 a2 t749 t752 true) else (if a1 > 64 then (codewrightlaw55_ChannelPatterns.j1 kj3 a0 a1 a2 t749 t752 true) else (if a2 < 0 then (codewrightlaw55_ChannelPatterns.j1 kj3 a0 a1 a2 t749 t752 true) else (codewrightlaw55_ChannelPatterns.j1 kj3 a0 a1 a2 t749 t752 (decide (a2 > a1)))))))) = some r := H
    have A7 := zA A70
    clear A70
    have HC8 := zA H
    clear H
    go_upto_region 4 with (first | ((with_reducible refine gate_callee (f := 19) rfl ?_); refine goesL_ (some 19) rfl rfl Try.func19 (by kernel_rfl) rfl #[.int .i64 a0, .int .i64 a1, .int .i64 a2] rfl (by (try simp only [List.map_toArray, List.map_cons, List.map_nil]); first | done | rfl | (simp only [List.length_drop, List.length_take]; rfl)) ?_; (with_reducible refine (channel_Pattern.calls kj3 a0 a1 a2 t749 t752 _ A7.out).mono ?_); rintro e w9 ⟨v750, rfl, ho0, hb⟩; refine ⟨_, rfl, ?_⟩; have HO751 := zA (Kd.N_lower (Kd.N_mono (ok' := fun k_ => True) ho0 (fun k_ hk_ => trivial)) (below_size (by exact zB HB))); replace HB := zA (below_step (by exact zB HB) hb); (try clear hb ho0)))
    (try simp only [Act.put, List.setIfInBounds_toArray, List.set_cons_zero, List.set_cons_succ])
    go_cut [44] (fun v44 wc => ∃ (kq : Nat) (x44_7 : Bool), v44 = .bool x44_7 ∧ Aside0 (codewrightlaw55_ChannelPatterns.j1 kq a0 a1 a2 t749 t752 x44_7 = some r) ∧ Aside0 (kq ≤ kj3) ∧ Aside0 (Kd.N k52 52 wc w.heap.size (fun _ => True) v750 t749) ∧ Aside0 (Below w.heap.size w wc))
    case first =>
     have H := HC8.out
     clear HC8
     by_cases c10 : a0 < 2
     ·
      rw [if_pos c10] at H
      have c10b0 : decide (a0 < 2) = true := decide_eq_true c10
      clear c10
      (first | rw [c10b0] | (simp only [i64_w, i32_w]; rw [c10b0]) | rw [c10b1] | rw [c10b2] | skip)
      have H' := zA H
      clear H
      go_wp2
      go_meet
      case rel => exact ⟨_, (true), (by first | rfl | (simp; done) | (simp [*]; done)), H', ⟨by have := HJ3.out; first | omega | exact Nat.le_refl _⟩, ⟨by exact zN HO751⟩, ⟨by exact zB HB⟩⟩
     ·
      rw [if_neg c10] at H
      have c10b0 : decide (a0 < 2) = false := decide_eq_false c10
      clear c10
      (first | rw [c10b0] | (simp only [i64_w, i32_w]; rw [c10b0]) | rw [c10b1] | rw [c10b2] | skip)
      by_cases c11 : a0 > 256
      ·
       rw [if_pos c11] at H
       have c11b0 : decide (256 < a0) = true := decide_eq_true c11
       clear c11
       have H' := zA H
       clear H
       go_wp2
       go_meet
       case rel => exact ⟨_, (true), (by first | rfl | (simp; done) | (simp [*]; done)), H', ⟨by have := HJ3.out; first | omega | exact Nat.le_refl _⟩, ⟨by exact zN HO751⟩, ⟨by exact zB HB⟩⟩
      ·
       rw [if_neg c11] at H
       have c11b0 : decide (256 < a0) = false := decide_eq_false c11
       clear c11
       by_cases c12 : a1 < 0
       ·
        rw [if_pos c12] at H
        have c12b0 : decide (a1 < 0) = true := decide_eq_true c12
        clear c12
        have H' := zA H
        clear H
        go_wp2
        go_meet
        case rel => exact ⟨_, (true), (by first | rfl | (simp; done) | (simp [*]; done)), H', ⟨by have := HJ3.out; first | omega | exact Nat.le_refl _⟩, ⟨by exact zN HO751⟩, ⟨by exact zB HB⟩⟩
       ·
        rw [if_neg c12] at H
        have c12b0 : decide (a1 < 0) = false := decide_eq_false c12
        clear c12
        by_cases c13 : a1 > 64
        ·
         rw [if_pos c13] at H
         have c13b0 : decide (64 < a1) = true := decide_eq_true c13
         clear c13
         have H' := zA H
         clear H
         go_wp2
         go_meet
         case rel => exact ⟨_, (true), (by first | rfl | (simp; done) | (simp [*]; done)), H', ⟨by have := HJ3.out; first | omega | exact Nat.le_refl _⟩, ⟨by exact zN HO751⟩, ⟨by exact zB HB⟩⟩
        ·
         rw [if_neg c13] at H
         have c13b0 : decide (64 < a1) = false := decide_eq_false c13
         clear c13
         by_cases c14 : a2 < 0
         ·
          rw [if_pos c14] at H
          have c14b0 : decide (a2 < 0) = true := decide_eq_true c14
          clear c14
          have H' := zA H
          clear H
          go_wp2
          go_meet
          case rel => exact ⟨_, (true), (by first | rfl | (simp; done) | (simp [*]; done)), H', ⟨by have := HJ3.out; first | omega | exact Nat.le_refl _⟩, ⟨by exact zN HO751⟩, ⟨by exact zB HB⟩⟩
         ·
          rw [if_neg c14] at H
          have c14b0 : decide (a2 < 0) = false := decide_eq_false c14
          clear c14
          have H' := zA H
          clear H
          go_wp2
          go_meet
          case rel => exact ⟨_, (decide (a2 > a1)), (by first | rfl | (simp; done) | (simp [*]; done)), H', ⟨by have := HJ3.out; first | omega | exact Nat.le_refl _⟩, ⟨by exact zN HO751⟩, ⟨by exact zB HB⟩⟩
    case rest =>
     clear HC8
     try clear c1
     try clear p2
     try clear c4
     try clear c5
     try clear c5b0
     try clear c6
     try clear c10
     try clear c10b0
     try clear c11
     try clear c11b0
     try clear c12
     try clear c12b0
     try clear c13
     try clear c13b0
     try clear c14
     try clear c14b0
     try clear p2
     obtain ⟨kq, x44_7, rfl, HA, HJ7, HO_7, HB⟩ := hcut
     cases kq with
     | zero => exact absurd HA.out (by simp [codewrightlaw55_ChannelPatterns.j1])
     | succ kj7 =>
      have H := HA.out
      clear HA
      simp only [codewrightlaw55_ChannelPatterns.j1] at H
      by_cases c15 : x44_7 = true
      ·
       subst c15
       have H1 : (if t752 = 6 then (some ((t749.length : Int) == 0)) else (some false)) = some r := by rw [if_pos rfl] at H; exact H
       clear H
       have H := H1
       clear H1
       by_cases c16 : t752 = 6
       ·
        rw [if_pos c16] at H
        have c16b0 : (t752 == 6) = true := beq_iff_eq.mpr c16
        have c16b1 : (t752 != 6) = false := bne_eq_false_iff_eq.mpr c16
        clear c16
        obtain rfl := Option.some.inj H
        obtain ⟨Ao17, co17, eo17⟩ := Kd.N_slice HO_7.out
        subst eo17
        go_wp2
        go_ret
        exact ⟨by first | rfl | (simp [errW_none, errW_some] <;> rfl) | (simp [*, errW_none, errW_some] <;> rfl), by exact zB HB⟩
       ·
        rw [if_neg c16] at H
        have c16b0 : (t752 == 6) = false := beq_eq_false_iff_ne.mpr c16
        have c16b1 : (t752 != 6) = true := bne_iff_ne.mpr c16
        obtain rfl := Option.some.inj H
        go_wp2
        go_ret
        exact ⟨by first | rfl | (simp [errW_none, errW_some] <;> rfl) | (simp [*, errW_none, errW_some] <;> rfl), by exact zB HB⟩
      ·
       replace c15 := Bool.eq_false_iff.mpr c15
       subst c15
       have H1 : (if a1 > 16 then (some true) else (if t752 = 0 then ((codewrightref55_Pattern.f kj7 a0 a1 a2).bind fun t753 => ((codewrightlaw55_same.f kj7 t749 t753).bind fun t756 => (some t756))) else (some false))) = some r := by rw [if_neg (show ¬ (false = true) by decide)] at H; exact H
       clear H
       have H := H1
       clear H1
       by_cases c18 : a1 > 16
       ·
        rw [if_pos c18] at H
        have c18b0 : decide (16 < a1) = true := decide_eq_true c18
        clear c18
        obtain rfl := Option.some.inj H
        go_wp2
        go_ret
        exact ⟨by first | rfl | (simp [errW_none, errW_some] <;> rfl) | (simp [*, errW_none, errW_some] <;> rfl), by exact zB HB⟩
       ·
        rw [if_neg c18] at H
        have c18b0 : decide (16 < a1) = false := decide_eq_false c18
        clear c18
        by_cases c19 : t752 = 0
        ·
         rw [if_pos c19] at H
         have c19b0 : (t752 == 0) = true := beq_iff_eq.mpr c19
         have c19b1 : (t752 != 0) = false := bne_eq_false_iff_eq.mpr c19
         clear c19
         replace H := Option.bind_eq_some_iff.mp H
         obtain ⟨t753, A200, H⟩ := H
         replace H : ((codewrightlaw55_same.f kj7 t749 t753).bind fun t756 => (some t756)) = some r := H
         have A20 := zA A200
         clear A200
         replace H := Option.bind_eq_some_iff.mp H
         obtain ⟨t756, A210, H⟩ := H
         replace H : (some t756) = some r := H
         have A21 := zA A210
         clear A210
         obtain rfl := Option.some.inj H
         go_wp2_with (first | (go_at_call 21; (with_reducible refine (codewrightref55_Pattern.calls kj7 a0 a1 a2 t753 _ A20.out).mono ?_); rintro e w22 ⟨v754, rfl, ho0, hb⟩; have HO755 := zA (Kd.N_lower (Kd.N_mono (ok' := fun k_ => some k_ ≠ (v750 : Value).ownBlock) ho0 (fun k_ hk_ => (Kd.fresh' (Kd.N_lt (by exact zN HO_7)) k_ hk_))) (below_size (by exact zB HB))); replace HO_7 := zA (Kd.N_elder' (by exact zN HO_7) (Kd.N_base ho0) hb); replace HB := zA (below_step (by exact zB HB) hb); (try clear hb ho0); obtain ⟨Ao23, co23, eo23⟩ := Kd.N_slice HO_7.out; subst eo23; obtain ⟨Ao24, co24, eo24⟩ := Kd.N_slice HO755.out; subst eo24) | (go_at_call 20; (with_reducible refine (codewrightlaw55_same.calls kj7 _ _ t749 _ _ t753 t756 _ ?side1 ?side2 ?side3 ?side4 A21.out).mono ?_); (case side1 => exact zC ((Kd.N_reads' HO_7.out).2.2)); (case side2 => exact (Kd.N_reads' HO_7.out).2.1); (case side3 => exact zC ((Kd.N_reads' HO755.out).2.2)); (case side4 => exact (Kd.N_reads' HO755.out).2.1); rintro e w25 ⟨rfl, hb⟩; replace HO_7 := zA (Kd.N_below (by exact zN HO_7) hb); replace HO755 := zA (Kd.N_below (by exact zN HO755) hb); replace HB := zA (below_step (by exact zB HB) hb); (try clear hb)))
         go_ret
         exact ⟨by first | rfl | (simp [errW_none, errW_some] <;> rfl) | (simp [*, errW_none, errW_some] <;> rfl), by exact zB HB⟩
        ·
         rw [if_neg c19] at H
         have c19b0 : (t752 == 0) = false := beq_eq_false_iff_ne.mpr c19
         have c19b1 : (t752 != 0) = true := bne_iff_ne.mpr c19
         obtain rfl := Option.some.inj H
         go_wp2
         go_ret
         exact ⟨by first | rfl | (simp [errW_none, errW_some] <;> rfl) | (simp [*, errW_none, errW_some] <;> rfl), by exact zB HB⟩
/-- THE ONE PURE STATEMENT of codewrightlaw55_ChannelPatterns: yours. -/
def codewrightlaw55_ChannelPatterns.Pure : Prop := ∀ (a0 : Int) (a1 : Int) (a2 : Int), (Lit.int .i64 a0).wf = true → (Lit.int .i64 a1).wf = true → (Lit.int .i64 a2).wf = true → ∃ k, codewrightlaw55_ChannelPatterns.f k a0 a1 a2 = some true
theorem codewrightlaw55_ChannelPatterns.walk (P : codewrightlaw55_ChannelPatterns.Pure) (a0 : Int) (a1 : Int) (a2 : Int) (w : World) (w0 : (Lit.int .i64 a0).wf = true) (w1 : (Lit.int .i64 a1).wf = true) (w2 : (Lit.int .i64 a2).wf = true) :
  Calls Try.prog 4 #[.int .i64 a0, .int .i64 a1, .int .i64 a2] w fun e w' => e = .returned (.bool true) ∧ Below w.heap.size w w' := by
 obtain ⟨k, h⟩ := P a0 a1 a2 w0 w1 w2
 refine (codewrightlaw55_ChannelPatterns.calls k a0 a1 a2 true w h).mono ?_
 rintro e w' ⟨rfl, hd⟩
 exact ⟨rfl, hd⟩
end Go.Proofs.Ytjignpnnmfdedaa.PChannelPatterns
