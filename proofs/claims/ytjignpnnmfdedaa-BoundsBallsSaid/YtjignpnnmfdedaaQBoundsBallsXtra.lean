/- Lemmas on a[:n:n], for the walks that a turned print writes. -/
import Derived.Test.YtjignpnnmfdedaaQBoundsBallsWMore
import Derived.Laws.Slices
namespace Go.Proofs.YtjignpnnmfdedaaW.PrintWords
open Go.RowKit
/-- xs[:j:j]: the capacity is the length. -/
theorem cut_to3 {P : Program} (t e : TypeId) (kh : IntKind) {i : TypeInfo} (ht : P.underlying t = some (.slice e)) (hi : P.info? e = some i) (A : Option Addr) (n c : Nat) (j : Int) (h0 : 0 ≤ j) (hm : j ≤ n) (hc : n ≤ c) :
    ∀ W : World, (Instr.slice t (.slice A n c) none (some (.int kh j)) (some (.int kh j))).run P W = .ok (.slice A j.toNat j.toNat) W := by
  intro W
  have hel : P.elem t = e := by simp [Program.elem, ht]
  have hu : P.underlying t = some (.slice (P.elem t)) := by rw [hel]; exact ht
  have ha : (A.map fun x => x.add 0) = A := by cases A <;> simp [Addr.add]
  rw [run_slice_hm W t A n c hu kh kh j j h0 (Int.le_refl _) (by omega), hel]
  simp [sizeOf, typeInfo, hi, sliced, Result.andThen, ha]
variable {α : Type}
/-! ### a row that lies in the middle of a row of the call's own -/
namespace Kd
def U (ad : Addr) (cap : Nat) (pre post : List Int) (d : Kd Int) (e : Nat) (W : World) (base : Nat) (ok : Nat → Prop) (v : Value) (xs : List Int) : Prop :=
  (∀ k, v.ownBlock = some k → ok k) ∧ ∃ g c, ad = ⟨g, pre.length, none⟩ ∧ v = .slice (some ad) xs.length c ∧ xs.length ≤ c ∧ d.R e W base ok (.slice (some ⟨g, 0, none⟩) (pre ++ xs ++ post).length cap) (pre ++ xs ++ post)
section
variable {ad : Addr} {cap : Nat} {pre post xs : List Int} {d : Kd Int} {e base : Nat} {W w w' : World} {ok ok' : Nat → Prop} {v : Value} {k : IntKind}
end
end Kd
end Go.Proofs.YtjignpnnmfdedaaW.PrintWords
