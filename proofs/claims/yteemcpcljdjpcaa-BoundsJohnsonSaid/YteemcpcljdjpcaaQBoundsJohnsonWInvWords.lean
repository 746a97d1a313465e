/- A part of the print of this row, cut down to what the row uses. -/
import Derived.Test.YteemcpcljdjpcaaQBoundsJohnsonWInv
import Derived.Test.YteemcpcljdjpcaaQBoundsJohnsonWFootNe
namespace Go.Proofs.YteemcpcljdjpcaaW.PrintWords
open Go.RowKit
end Go.Proofs.YteemcpcljdjpcaaW.PrintWords
namespace Go.Proofs.YteemcpcljdjpcaaW.PrintLast
section
variable {ops : Array Oper} {a : Act} {o og : Oper} {g : Nat} {t : Tmp} {u : Bool}
end
end Go.Proofs.YteemcpcljdjpcaaW.PrintLast
