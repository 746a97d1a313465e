/- Lemmas on a[:n:n], for the walks that a turned print writes. -/
import Derived.Test.YtpjpbhjpobdenaaQBoundsLinearWMore
import Derived.Laws.Slices
namespace Go.Proofs.YtpjpbhjpobdenaaW.PrintWords
open Go.RowKit
variable {α : Type}
/-! ### a row that lies in the middle of a row of the call's own -/
namespace Kd
def U (ad : Addr) (cap : Nat) (pre post : List Int) (d : Kd Int) (e : Nat) (W : World) (base : Nat) (ok : Nat → Prop) (v : Value) (xs : List Int) : Prop :=
 (∀ k, v.ownBlock = some k → ok k) ∧ ∃ g c, ad = ⟨g, pre.length, none⟩ ∧ v = .slice (some ad) xs.length c ∧ xs.length ≤ c ∧ d.R e W base ok (.slice (some ⟨g, 0, none⟩) (pre ++ xs ++ post).length cap) (pre ++ xs ++ post)
section
variable {ad : Addr} {cap : Nat} {pre post xs : List Int} {d : Kd Int} {e base : Nat} {W w w' : World} {ok ok' : Nat → Prop} {v : Value} {k : IntKind}
end
end Kd
end Go.Proofs.YtpjpbhjpobdenaaW.PrintWords
