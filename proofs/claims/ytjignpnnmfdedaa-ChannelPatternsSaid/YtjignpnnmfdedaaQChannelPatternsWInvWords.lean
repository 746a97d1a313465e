/- A part of the print of this row, cut down to what the row uses. -/
import Derived.Test.YtjignpnnmfdedaaQChannelPatternsWInv
import Derived.Test.YtjignpnnmfdedaaQChannelPatternsWFootNe
namespace Go.Proofs.YtjignpnnmfdedaaW.PrintWords
open Go.RowKit
end Go.Proofs.YtjignpnnmfdedaaW.PrintWords
namespace Go.Proofs.YtjignpnnmfdedaaW.PrintLast
section
variable {ops : Array Oper} {a : Act} {o og : Oper} {g : Nat} {t : Tmp} {u : Bool}
end
end Go.Proofs.YtjignpnnmfdedaaW.PrintLast
