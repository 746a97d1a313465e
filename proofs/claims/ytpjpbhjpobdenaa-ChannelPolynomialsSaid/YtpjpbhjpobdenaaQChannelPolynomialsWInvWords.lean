/- A part of the print of this row, cut down to what the row uses. -/
import Derived.Test.YtpjpbhjpobdenaaQChannelPolynomialsWInv
import Derived.Test.YtpjpbhjpobdenaaQChannelPolynomialsWFootNe
namespace Go.Proofs.YtpjpbhjpobdenaaW.PrintWords
open Go.RowKit
end Go.Proofs.YtpjpbhjpobdenaaW.PrintWords
namespace Go.Proofs.YtpjpbhjpobdenaaW.PrintLast
section
variable {ops : Array Oper} {a : Act} {o og : Oper} {g : Nat} {t : Tmp} {u : Bool}
end
end Go.Proofs.YtpjpbhjpobdenaaW.PrintLast
