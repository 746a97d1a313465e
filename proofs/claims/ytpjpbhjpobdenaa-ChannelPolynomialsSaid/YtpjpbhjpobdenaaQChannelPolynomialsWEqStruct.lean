/- A part of the print of this row, cut down to what the row uses. -/
import Derived.Test.YtpjpbhjpobdenaaQChannelPolynomialsWWords
import Derived.Laws.StructEq
/-! ### 53. '==' of structs as_ one Bool -/
namespace Go.Proofs.YtpjpbhjpobdenaaW.PrintWords
open Go.RowKit
section
variable {P : Program} {d : Nat} {xs ys : Array Value} {f : Field} {fs : List Field} {a b : Value} {r s : Bool} {w : World}
end
end Go.Proofs.YtpjpbhjpobdenaaW.PrintWords
