/- The types of this program, as the values' table. -/
import Derived.Test.YtpjpbhjpobdenaaChecked
import Derived.Test.YtpjpbhjpobdenaaQChannelPolynomialsAb
import Derived.KernelRfl
namespace Go.Proofs.Ytpjpbhjpobdenaa
open Go Ab
theorem nd {p : Prop} : false = true → p := fun h => absurd h Bool.false_ne_true
def tl : List (Nat × TI) := [(3, ⟨.int .i64, 1, 8, .int .i64 0⟩),
 (4, ⟨.bool, 1, 1, .bool false⟩),
 (5, ⟨.int .u8, 1, 1, .int .u8 0⟩),
 (22, ⟨.slice 3, 1, 24, .nils⟩),
 (24, ⟨.struct [(0, 1), (1, 1), (2, 1)], 3, 40, .agg [.int .i64 0, .int .i64 0, .nils]⟩),
 (25, ⟨.slice 22, 1, 24, .nils⟩),
 (31, ⟨.slice 38, 1, 24, .nils⟩),
 (36, ⟨.slice 40, 1, 24, .nils⟩),
 (38, ⟨.slice 85, 1, 24, .nils⟩),
 (40, ⟨.struct [(0, 1), (1, 1), (2, 1)], 3, 56, .agg [.bool false, .nils, .nils]⟩),
 (57, ⟨.int .u64, 1, 8, .int .u64 0⟩),
 (85, ⟨.int .u32, 1, 4, .int .u32 0⟩)]
def tt : TT := lookT tl
theorem tOk : TOk Try.prog tt := lookT_all (by kernel_rfl)
theorem mixed : Try.prog.follows .mixedOrders = true := by kernel_rfl
end Go.Proofs.Ytpjpbhjpobdenaa
