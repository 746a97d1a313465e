/- A part of the print of this row, cut down to what the row uses. -/
import Derived.Test.YteemcpcljdjpcaaQBoundsPerfectx0
import Derived.Test.YteemcpcljdjpcaaQBoundsPerfectx1
import Derived.Test.YteemcpcljdjpcaaQBoundsPerfectx2
import Derived.Test.YteemcpcljdjpcaaQBoundsPerfectx3
import Derived.Test.YteemcpcljdjpcaaQBoundsPerfectx4
import Derived.Test.YteemcpcljdjpcaaQBoundsPerfectx5
import Derived.Test.YteemcpcljdjpcaaQBoundsPerfectx6
import Derived.Test.YteemcpcljdjpcaaQBoundsPerfectx7
import Derived.Test.YteemcpcljdjpcaaQBoundsPerfectx8
import Derived.Test.YteemcpcljdjpcaaQBoundsPerfectx9
-- printed by a scratch copy of the print, turned (wip/tools/turn_print.py)
namespace Go.Proofs.Yteemcpcljdjpcaa.PBoundsPerfect
open Go.RowKit Go.Proofs.YteemcpcljdjpcaaW.PrintWords Go.Proofs.YteemcpcljdjpcaaW.PrintLast Go.Proofs.YteemcpcljdjpcaaW.PrintMore
attribute [local go_sem] max2_int min2_int max_two min_two max_three min_three max_four min_four   -- for this text's walks alone
set_option linter.unusedVariables false
set_option linter.unusedSimpArgs false
end Go.Proofs.Yteemcpcljdjpcaa.PBoundsPerfect
