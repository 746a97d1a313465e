/- A part of the print of this row, cut down to what the row uses. -/
import Derived.Test.YteemcpcljdjpcaaQBoundsFormulasx0
import Derived.Test.YteemcpcljdjpcaaQBoundsFormulasx1
import Derived.Test.YteemcpcljdjpcaaQBoundsFormulasx2
import Derived.Test.YteemcpcljdjpcaaQBoundsFormulasx3
import Derived.Test.YteemcpcljdjpcaaQBoundsFormulasx4
import Derived.Test.YteemcpcljdjpcaaQBoundsFormulasx5
import Derived.Test.YteemcpcljdjpcaaQBoundsFormulasx6
import Derived.Test.YteemcpcljdjpcaaQBoundsFormulasx7
import Derived.Test.YteemcpcljdjpcaaQBoundsFormulasx8
import Derived.Test.YteemcpcljdjpcaaQBoundsFormulasx9
import Derived.Test.YteemcpcljdjpcaaQBoundsFormulasx10
import Derived.Test.YteemcpcljdjpcaaQBoundsFormulasx11
-- printed by a scratch copy of the print, turned (wip/tools/turn_print.py)
namespace Go.Proofs.Yteemcpcljdjpcaa.PBoundsFormulas
open Go.RowKit Go.Proofs.YteemcpcljdjpcaaW.PrintWords Go.Proofs.YteemcpcljdjpcaaW.PrintLast Go.Proofs.YteemcpcljdjpcaaW.PrintMore
attribute [local go_sem] max2_int min2_int max_two min_two max_three min_three max_four min_four   -- for this text's walks alone
set_option linter.unusedVariables false
set_option linter.unusedSimpArgs false
end Go.Proofs.Yteemcpcljdjpcaa.PBoundsFormulas
