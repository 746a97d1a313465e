/- A part of the print of this row, cut down to what the row uses. -/
import Derived.Test.YteemcpcljdjpcaaQBoundsEliasx0
import Derived.Test.YteemcpcljdjpcaaQBoundsEliasx1
import Derived.Test.YteemcpcljdjpcaaQBoundsEliasx2
import Derived.Test.YteemcpcljdjpcaaQBoundsEliasx3
import Derived.Test.YteemcpcljdjpcaaQBoundsEliasx4
import Derived.Test.YteemcpcljdjpcaaQBoundsEliasx5
import Derived.Test.YteemcpcljdjpcaaQBoundsEliasx6
import Derived.Test.YteemcpcljdjpcaaQBoundsEliasx7
import Derived.Test.YteemcpcljdjpcaaQBoundsEliasx8
import Derived.Test.YteemcpcljdjpcaaQBoundsEliasx9
import Derived.Test.YteemcpcljdjpcaaQBoundsEliasx10
-- printed by a scratch copy of the print, turned (wip/tools/turn_print.py)
namespace Go.Proofs.Yteemcpcljdjpcaa.PBoundsElias
open Go.RowKit Go.Proofs.YteemcpcljdjpcaaW.PrintWords Go.Proofs.YteemcpcljdjpcaaW.PrintLast Go.Proofs.YteemcpcljdjpcaaW.PrintMore
attribute [local go_sem] max2_int min2_int max_two min_two max_three min_three max_four min_four   -- for this text's walks alone
set_option linter.unusedVariables false
set_option linter.unusedSimpArgs false
end Go.Proofs.Yteemcpcljdjpcaa.PBoundsElias
