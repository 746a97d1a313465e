/- The row of the statement BoundsBalls: out of the printed walk and the pure theorem. Conditions: none. -/
import Derived.Test.YtjignpnnmfdedaaRows
import Derived.Test.YtjignpnnmfdedaaQBoundsBallsx12
import Derived.Test.YtjignpnnmfdedaaQBoundsBallsPg
import Derived.Test.YtjignpnnmfdedaaQBoundsBallsWOpn
import Derived.WalkKit
import Derived.ProofKit
import Derived.OpenShut
import Derived.ShutString
import Derived.ChangeOld
import Derived.Below
import Derived.SizedLaws
namespace Go.Proofs.Ytjignpnnmfdedaa.boundsBalls
open Go.ChangeShapes Go.WideShapes Go.ChangeAt Go.RowKit Go.Proofs.YtjignpnnmfdedaaW.PrintWords Go.Proofs.YtjignpnnmfdedaaW.Opn
set_option linter.unusedVariables false
theorem own : ownKnob Try.prog.godebug = none := by kernel_rfl
theorem laidOut : laidOutB Try.prog = true := by kernel_rfl
set_option maxRecDepth 100000 in
theorem lifted (os : Os) (started : os.Started) (H : Type) (enc : TypeId × Value → H) :
    ReturnsInHanded {} Try.checked os 3 .any (Rows.boundsBallsSpec.pre6 enc Try.prog Try.f3 Rows.boundsBallsRow.domain false) (Rows.boundsBallsSpec.post enc Try.prog Try.f3 false true false false) := by
  refine returnsInHanded_of_change_sized (C := Try.checked) own started (by kernel_rfl) Try.func3
    (ChangeSpec.witness6 (enc := enc) (C := Try.checked) false ⟨#[], #[.agg #[.int .i64 0, .int .i64 0, .slice none 0 0], .int .u8 0, .int .i64 0, .slice none 0 0], []⟩ 8 (by kernel_rfl) (by kernel_rfl) (by kernel_rfl) (by kernel_rfl)) ?_
  intro W base args ds gs before hval0 hW hcnd hsz0 _
  have hval : ∀ (j : Nat) t v, Try.f3.params[j]? = some t → args[j]? = some v → Value.okWide Try.prog W .any base t v := hval0
  have hW' := hW
  obtain ⟨p, q, hA0, hV, rfl, hfz, hnd⟩ := hW
  have hA : DataW.TrodAll enc Try.prog W 0 (fun _ => true) true Try.f3.params.toList args.toList ds p := hA0
  rw [Try.params3] at hA hval
  obtain ⟨v0, vs0, d0, ds0, p0, q0, hargs, rfl, rfl, h0, r0⟩ := trodAll_cons hA
  obtain ⟨v1, vs1, d1, ds1, p1, q1, rfl, rfl, rfl, h1, r1⟩ := trodAll_cons r0
  obtain ⟨v2, vs2, d2, ds2, p2, q2, rfl, rfl, rfl, h2, r2⟩ := trodAll_cons r1
  obtain ⟨v3, vs3, d3, ds3, p3, q3, rfl, rfl, rfl, h3, r3⟩ := trodAll_cons r2
  obtain ⟨rfl, rfl, rfl⟩ := trodAll_nil r3
  obtain rfl : args = #[v0, v1, v2, v3] := by cases args; simp_all
  obtain ⟨rfl, rfl⟩ := trodVars_none hV
  have k0 := h0
  have lt0 : ∀ x ∈ p0, x.block < W.heap.size := by obtain ⟨m, hm⟩ := k0; exact DataW.trod_lt m _ _ _ hm
  obtain ⟨y0_0, y0_1, y0_2, a0_0, a0_1, l0_2, rfl, g0_0, w0_0, g0_1, w0_1, g0_2, w0_2⟩ := arg_struct3 Try.underlying24 (by kernel_rfl) (by kernel_rfl) (hval 0 24 v0 rfl rfl) h0 (opens_int Try.underlying3) (opens_int Try.underlying3) (opens_slice (q := 3) (d := (Kd.int .i64)) Try.underlying22 (by kernel_rfl) (opens_int Try.underlying3))
  obtain rfl := cell_int g0_0
  obtain rfl := cell_int g0_1
  obtain ⟨A0_2, c0_2, rfl, le0_2, hC0_2⟩ := cell_slice g0_2
  obtain ⟨a1, rfl, rfl, rfl, w1⟩ := open_int Try.underlying5 (hval 1 5 v1 rfl rfl) h1
  obtain ⟨a2, rfl, rfl, rfl, w2⟩ := open_int Try.underlying3 (hval 2 3 v2 rfl rfl) h2
  obtain ⟨A3, n3, c3, rfl⟩ := okWide_slice Try.underlying22 (hval 3 22 v3 rfl rfl)
  have k3 := h3
  have lt3 : ∀ x ∈ p3, x.block < W.heap.size := by obtain ⟨m, hm⟩ := k3; exact DataW.trod_lt m _ _ _ hm
  obtain ⟨l3, rfl, le3, hC3, w3⟩ := arg_slice (q := 3) (d := (Kd.int .i64)) (opens_slice (q := 3) (d := (Kd.int .i64)) Try.underlying22 (by kernel_rfl) (opens_int Try.underlying3)) h3
  clear hA0 hval0 hsz0
  obtain ⟨k, h⟩ := Pure.BoundsBalls a0_0 a0_1 l0_2 a1 a2 l3 w1
  refine (PBoundsBalls.codewrightlaw34_BoundsBalls.calls k a0_0 a0_1 _ _ l0_2 a1 a2 _ _ l3 true W hC0_2 le0_2 hC3 le3 h).mono fun e W' ⟨he, bel⟩ => ?_
  subst he
  exact ⟨_, rfl, _, _, _, [], _, [], hW', trodAll_mk1 (shut_bool Try.underlying4 _), (trodAll_cons_mk (Below.trod laidOut (by kernel_rfl) (of_decide_eq_true (by kernel_rfl)) k0 bel lt0) (trodAll_cons_mk (shut_int Try.underlying5 w1) (trodAll_cons_mk (shut_int Try.underlying3 w2) (trodAll_cons_mk (Below.trod laidOut (by kernel_rfl) (of_decide_eq_true (by kernel_rfl)) k3 bel lt3) trodAll_mk0)))), rfl, bel.frame _, fun h => by cases h⟩
theorem over : Rows.boundsBallsRow.holds Try.pinned (OpenSpec.ofChange Rows.boundsBallsSpec) :=
  OpenClaim.holds_of_wide 3 Try.f3 rfl rfl rfl rfl rfl rfl rfl ⟨rfl, rfl, rfl, rfl, rfl⟩ rfl rfl rfl rfl rfl (by kernel_rfl) Try.func3 (by kernel_rfl)
    (of_decide_eq_true (by kernel_rfl)) (by unfold Func.isWrapper; first | (rw [if_pos (by decide +kernel)]; kernel_rfl) | (rw [if_neg (by decide +kernel)]; exact ⟨rfl, rfl⟩))
    (fun os started H enc _ => lifted os started H enc)
theorem proved : Rows.BoundsBallsSaid := over
#print axioms proved
end Go.Proofs.Ytjignpnnmfdedaa.boundsBalls
namespace Go.Proofs.Ytjignpnnmfdedaa
/-- The row, under a short name, for the claim. -/
theorem boundsBalls_holds : Rows.BoundsBallsSaid := boundsBalls.proved
end Go.Proofs.Ytjignpnnmfdedaa
