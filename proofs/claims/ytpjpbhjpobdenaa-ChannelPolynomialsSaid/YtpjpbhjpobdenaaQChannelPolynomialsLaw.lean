/- The row of the statement ChannelPolynomials: out of its contract over values. Conditions: none. -/
import Derived.Test.YtpjpbhjpobdenaaRows
import Derived.Test.YtpjpbhjpobdenaaQChannelPolynomialsPg
import Derived.Test.YtpjpbhjpobdenaaQChannelPolynomialsLib
import Derived.WalkKit
import Derived.ProofKit
import Derived.OpenShut
import Derived.ShutString
import Derived.ChangeOld
import Derived.Below
import Derived.SizedLaws
namespace Go.Proofs.Ytpjpbhjpobdenaa.channelPolynomials
open Go.ChangeShapes Go.WideShapes Go.ChangeAt Go.RowKit Ab
set_option linter.unusedVariables false
theorem own : ownKnob Try.prog.godebug = none := by kernel_rfl
theorem laidOut : laidOutB Try.prog = true := by kernel_rfl
set_option maxRecDepth 100000 in
theorem lifted (os : Os) (started : os.Started) (H : Type) (enc : TypeId × Value → H) :
  ReturnsInHanded {} Try.checked os 4 .any (Rows.channelPolynomialsSpec.pre6 enc Try.prog Try.f4 Rows.channelPolynomialsRow.domain false) (Rows.channelPolynomialsSpec.post enc Try.prog Try.f4 false true false false) := by
 refine returnsInHanded_of_change_sized (C := Try.checked) own started (by kernel_rfl) Try.func4
  (ChangeSpec.witness6 (enc := enc) (C := Try.checked) false ⟨#[], #[.slice none 0 0, .slice none 0 0, .agg #[.bool false, .slice none 0 0, .slice none 0 0]], []⟩ 8 (by kernel_rfl) (by kernel_rfl) (by kernel_rfl) (by kernel_rfl)) ?_
 intro W base args ds gs before hval0 hW hcnd hsz0 _
 have hval : ∀ (j : Nat) t v, Try.f4.params[j]? = some t → args[j]? = some v → Value.okWide Try.prog W .any base t v := hval0
 have hW' := hW
 obtain ⟨p, q, hA0, hV, rfl, hfz, hnd⟩ := hW
 have hA : DataW.TrodAll enc Try.prog W 0 (fun _ => true) true Try.f4.params.toList args.toList ds p := hA0
 rw [Try.params4] at hA hval hsz0
 obtain ⟨v0, vs0, d0, ds0, p0, q0, hargs, rfl, rfl, h0, r0⟩ := trodAll_cons hA
 obtain ⟨v1, vs1, d1, ds1, p1, q1, rfl, rfl, rfl, h1, r1⟩ := trodAll_cons r0
 obtain ⟨v2, vs2, d2, ds2, p2, q2, rfl, rfl, rfl, h2, r2⟩ := trodAll_cons r1
 obtain ⟨rfl, rfl, rfl⟩ := trodAll_nil r2
 obtain rfl : args = #[v0, v1, v2] := by cases args; simp_all
 obtain ⟨rfl, rfl⟩ := trodVars_none hV
 have k0 := h0
 have lt0 : ∀ x ∈ p0, x.block < W.heap.size := by obtain ⟨m, hm⟩ := k0; exact DataW.trod_lt m _ _ _ hm
 obtain ⟨A0, n0, c0, rfl⟩ := okWide_slice Try.underlying36 (hval 0 36 v0 rfl rfl)
 have z0 := sized_len hsz0 (j := 0) rfl rfl Try.underlying36 h0
 obtain ⟨l0, R0, w0⟩ := opd_one (opd_slice (z := 3) Try.underlying36 (by kernel_rfl) (fun _ => rfl) (opd_struct3 Try.underlying40 (by kernel_rfl) (by kernel_rfl) (opd_bool Try.underlying4) (opd_slice (z := 1) Try.underlying38 (by kernel_rfl) (fun _ => rfl) (opd_int Try.underlying85)) (opd_slice (z := 1) Try.underlying38 (by kernel_rfl) (fun _ => rfl) (opd_int Try.underlying85)))) rfl h0
 obtain rfl : n0 = l0.length := by cases R0; rfl
 have k1 := h1
 have lt1 : ∀ x ∈ p1, x.block < W.heap.size := by obtain ⟨m, hm⟩ := k1; exact DataW.trod_lt m _ _ _ hm
 obtain ⟨A1, n1, c1, rfl⟩ := okWide_slice Try.underlying36 (hval 1 36 v1 rfl rfl)
 have z1 := sized_len hsz0 (j := 1) rfl rfl Try.underlying36 h1
 obtain ⟨l1, R1, w1⟩ := opd_one (opd_slice (z := 3) Try.underlying36 (by kernel_rfl) (fun _ => rfl) (opd_struct3 Try.underlying40 (by kernel_rfl) (by kernel_rfl) (opd_bool Try.underlying4) (opd_slice (z := 1) Try.underlying38 (by kernel_rfl) (fun _ => rfl) (opd_int Try.underlying85)) (opd_slice (z := 1) Try.underlying38 (by kernel_rfl) (fun _ => rfl) (opd_int Try.underlying85)))) rfl h1
 obtain rfl : n1 = l1.length := by cases R1; rfl
 have k2 := h2
 have lt2 : ∀ x ∈ p2, x.block < W.heap.size := by obtain ⟨m, hm⟩ := k2; exact DataW.trod_lt m _ _ _ hm
 obtain ⟨l2, R2, w2⟩ := opd_agg Try.underlying40 (hval 2 40 v2 rfl rfl) (opd_struct3 Try.underlying40 (by kernel_rfl) (by kernel_rfl) (opd_bool Try.underlying4) (opd_slice (z := 1) Try.underlying38 (by kernel_rfl) (fun _ => rfl) (opd_int Try.underlying85)) (opd_slice (z := 1) Try.underlying38 (by kernel_rfl) (fun _ => rfl) (opd_int Try.underlying85))) h2
 clear hA0 hval0 hsz0
 have h := NatC.chanPoly_row (l0) (w0) (z0) (l1) (w1) (z1) (l2) (w2)
 refine (Spec.calls h (w := W) (.cons R0 (.cons R1 (.cons R2 RDl.nil)))).mono fun e W' ⟨bel, vr, he, hr⟩ => ?_
 obtain rfl := rd_isBool hr
 subst he
 exact ⟨_, rfl, _, _, _, [], _, [], hW', trodAll_mk1 (shut_bool Try.underlying4 _), (trodAll_cons_mk (Below.trod laidOut (by kernel_rfl) (of_decide_eq_true (by kernel_rfl)) k0 bel lt0) (trodAll_cons_mk (Below.trod laidOut (by kernel_rfl) (of_decide_eq_true (by kernel_rfl)) k1 bel lt1) (trodAll_cons_mk (Below.trod laidOut (by kernel_rfl) (of_decide_eq_true (by kernel_rfl)) k2 bel lt2) trodAll_mk0))), rfl, bel.frame _, fun h => by cases h⟩
theorem over : Rows.channelPolynomialsRow.holds Try.pinned (OpenSpec.ofChange Rows.channelPolynomialsSpec) :=
 OpenClaim.holds_of_wide 4 Try.f4 rfl rfl rfl rfl rfl rfl rfl ⟨rfl, rfl, rfl, rfl, rfl⟩ rfl rfl rfl rfl rfl (by kernel_rfl) Try.func4 (by kernel_rfl)
  (of_decide_eq_true (by kernel_rfl)) (by unfold Func.isWrapper; first | (rw [if_pos (by decide +kernel)]; kernel_rfl) | (rw [if_neg (by decide +kernel)]; exact ⟨rfl, rfl⟩))
  (fun os started H enc _ => lifted os started H enc)
theorem proved : Rows.ChannelPolynomialsSaid := over
#print axioms proved
end Go.Proofs.Ytpjpbhjpobdenaa.channelPolynomials
namespace Go.Proofs.Ytpjpbhjpobdenaa
/-- The row, under a short name, for the claim. -/
theorem channelPolynomials_holds : Rows.ChannelPolynomialsSaid := channelPolynomials.proved
end Go.Proofs.Ytpjpbhjpobdenaa
