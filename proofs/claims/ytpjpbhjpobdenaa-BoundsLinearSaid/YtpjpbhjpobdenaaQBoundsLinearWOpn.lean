/- Arguments opened: rows, rows of rows and structs, as what the printed walks read. -/
import Derived.Deep.Slices
import Derived.Lib.SmallJoins
import Derived.Test.YtpjpbhjpobdenaaQBoundsLinearWMore
namespace Go.Proofs.YtpjpbhjpobdenaaW.Opn
open Go Go.ChangeShapes Go.WideShapes Go.RowKit Go.Deep Go.Proofs.YtpjpbhjpobdenaaW.PrintWords
set_option linter.unusedVariables false
section
variable {H : Type} {enc : TypeId × Value → H} {P : Program} {w : World} {base : Nat} {held : Bool}
/-- cells of type t that are read whole are told by K, and wf holds -/
def Opens {H : Type} (enc : TypeId × Value → H) (P : Program) (w : World) (base : Nat) (held : Bool) (t : TypeId) {α : Type} (K : α → List Value → Prop) (wf : α → Prop) : Prop :=
 ∀ (fuel : Nat) (cs : List Value) (x : DataW H × List MemPlace), DataW.trod enc P w base (fun _ => true) held fuel t cs = some x → ∃ a, K a cs ∧ wf a
theorem opens_int {t : TypeId} {k : IntKind} (ht : P.underlying t = some (.int k)) : Opens enc P w base held t ((Kd.int k).K w) (fun n => (Lit.int k n).wf = true) := by
 intro fuel cs x h
 cases fuel with
 | zero => simp [DataW.trod] at h
 | succ fuel =>
  unfold DataW.trod at h
  rw [ht] at h
  split at h <;> simp_all
  exact ⟨_, rfl, h.1.2⟩
theorem opens_slice {t e q : TypeId} {α : Type} [Inhabited α] {d : Kd α} {wf : α → Prop} (ht : P.underlying t = some (.slice e)) (hc : P.cellsOf e = d.sz) (hd : Opens enc P w base held e (d.K w) wf) :
  Opens enc P w base held t ((Kd.slice q d).K w) (fun l => ∀ x ∈ l, wf x) := by
 intro fuel cs x h
 rcases open_slice ht h with ⟨rfl, rfl⟩ | ⟨a, len, cap, m, n, D, Pl, rfl, hb, hl, hm, hmm, rfl, hx⟩
 ·
  exact ⟨[], ⟨none, 0, rfl, Nat.le_refl _, rfl, Nat.zero_le _, fun h => absurd h (by simp)⟩, fun x hx => by simp at hx⟩
 ·
  simp only [if_true] at hmm
  have each : ∀ i, i < len → ∃ y : α × List Value, y.2.length = d.sz ∧ d.K w y.1 y.2 ∧ wf y.1 ∧ ∀ j u, y.2[j]? = some u → w.cell? (a.add (i * d.sz + j)) = some u := by
   intro i hi
   obtain ⟨cs', h1, h2⟩ := hx i (by omega)
   obtain ⟨y, h3, h4⟩ := hd n cs' _ h2
   obtain ⟨_, h5, h6⟩ := World.cells?_some h1
   rw [hc] at h5 h6
   refine ⟨(y, cs'), h5, h3, h4, fun j u hu => ?_⟩
   have hj : j < d.sz := by
    rw [← h5]
    exact (List.getElem?_eq_some_iff.1 hu).1
   have := h6 j hj
   rw [Deep.add_add] at this
   rw [this]; exact hu
  obtain ⟨f, hf⟩ := choose_lt each
  have hlen : ((List.range len).map fun i => (f i).1).length = len := by simp
  have hmax : len ≤ 9223372036854775807 := Nat.le_trans hl (Nat.le_trans hm (by decide))
  refine ⟨(List.range len).map fun i => (f i).1, ⟨some a, cap, by rw [hlen], by rw [hlen]; exact hl, rfl, by rw [hlen]; exact hmax, fun _ => ⟨a, rfl, fun j p hj => ?_⟩⟩, fun y hy => ?_⟩
  ·
   rw [List.getElem?_map] at hj
   by_cases hjl : j < len
   ·
    rw [List.getElem?_range hjl] at hj
    simp at hj
    subst hj
    obtain ⟨h1, h2, _, h4⟩ := hf j hjl
    exact ⟨(f j).2, h1, h2, h4⟩
   ·
    rw [List.getElem?_eq_none (by simp; omega)] at hj
    simp at hj
  ·
   obtain ⟨i, hi, rfl⟩ := List.mem_map.1 hy
   exact (hf i (List.mem_range.1 hi)).2.2.1
/-- a slice among the arguments -/
theorem arg_slice {t q : TypeId} {α : Type} {d : Kd α} {wf : List α → Prop} {a : Option Addr} {n c : Nat} {x : DataW H} {p : List MemPlace} (o : Opens enc P w base held t ((Kd.slice q d).K w) wf)
  (h : DataW.Trod enc P w base (fun _ => true) held t (.slice a n c) x p) : ∃ l : List α, n = l.length ∧ l.length ≤ c ∧ d.C w a l.length l ∧ wf l := by
 obtain ⟨fuel, hf⟩ := h
 obtain ⟨l, ⟨A, c', hcs, hle, hC⟩, hw⟩ := o fuel _ _ hf
 simp [Value.cells] at hcs
 obtain ⟨rfl, rfl, rfl⟩ := hcs
 exact ⟨l, rfl, hle, hC, hw⟩
/-- a struct of three fields of one cell each among the arguments -/
theorem arg_struct3 {t : TypeId} {f0 f1 f2 : Field} {r : Reach} {b0 : Nat} {v : Value} {d : DataW H} {p : List MemPlace} {α β γ : Type} {K0 : α → List Value → Prop} {K1 : β → List Value → Prop} {K2 : γ → List Value → Prop}
  {w0 : α → Prop} {w1 : β → Prop} {w2 : γ → Prop} (hs : P.underlying t = some (.struct #[f0, f1, f2])) (hone : oneCellFields P #[f0, f1, f2] = true) (hC : P.cellsOf t = 3)
  (hv : Value.okWide P w r b0 t v) (h : DataW.Trod enc P w base (fun _ => true) held t v d p) (o0 : Opens enc P w base held f0.type K0 w0) (o1 : Opens enc P w base held f1.type K1 w1) (o2 : Opens enc P w base held f2.type K2 w2) :
  ∃ v0 v1 v2 a b c, v = .agg #[v0, v1, v2] ∧ K0 a [v0] ∧ w0 a ∧ K1 b [v1] ∧ w1 b ∧ K2 c [v2] ∧ w2 c := by
 obtain ⟨v0, v1, v2, y0, y1, y2, n, rfl, _, _, h0, h1, h2⟩ := Joins.open_agg3 hs hone hC hv h
 obtain ⟨a, ha, wa⟩ := o0 n _ _ h0
 obtain ⟨b, hb, wb⟩ := o1 n _ _ h1
 obtain ⟨c, hc, wc⟩ := o2 n _ _ h2
 exact ⟨v0, v1, v2, a, b, c, rfl, ha, wa, hb, wb, hc, wc⟩
theorem cell_int {k : IntKind} {n : Int} {v : Value} (h : (Kd.int k).K w n [v]) : v = .int k n := by
 have : [v] = [.int k n] := h
 simpa using this
theorem cell_slice {q : TypeId} {α : Type} {d : Kd α} {l : List α} {v : Value} (h : (Kd.slice q d).K w l [v]) : ∃ A c, v = .slice A l.length c ∧ l.length ≤ c ∧ d.C w A l.length l := by
 obtain ⟨A, c, e, h1, h2⟩ := h
 exact ⟨A, c, by simpa using e, h1, h2⟩
end
end Go.Proofs.YtpjpbhjpobdenaaW.Opn
