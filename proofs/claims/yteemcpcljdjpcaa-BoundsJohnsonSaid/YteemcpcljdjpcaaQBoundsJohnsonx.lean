/- A part of the print of this row, cut down to what the row uses. -/
import Derived.Test.YteemcpcljdjpcaaQBoundsJohnsonx0
import Derived.Test.YteemcpcljdjpcaaQBoundsJohnsonx1
import Derived.Test.YteemcpcljdjpcaaQBoundsJohnsonx2
import Derived.Test.YteemcpcljdjpcaaQBoundsJohnsonx3
import Derived.Test.YteemcpcljdjpcaaQBoundsJohnsonx4
import Derived.Test.YteemcpcljdjpcaaQBoundsJohnsonx5
import Derived.Test.YteemcpcljdjpcaaQBoundsJohnsonx6
import Derived.Test.YteemcpcljdjpcaaQBoundsJohnsonx7
import Derived.Test.YteemcpcljdjpcaaQBoundsJohnsonx8
import Derived.Test.YteemcpcljdjpcaaQBoundsJohnsonx9
import Derived.Test.YteemcpcljdjpcaaQBoundsJohnsonx10
import Derived.Test.YteemcpcljdjpcaaQBoundsJohnsonx11
-- printed by a scratch copy of the print, turned (wip/tools/turn_print.py)
namespace Go.Proofs.Yteemcpcljdjpcaa.PBoundsJohnson
open Go.RowKit Go.Proofs.YteemcpcljdjpcaaW.PrintWords Go.Proofs.YteemcpcljdjpcaaW.PrintLast Go.Proofs.YteemcpcljdjpcaaW.PrintMore
attribute [local go_sem] max2_int min2_int max_two min_two max_three min_three max_four min_four   -- for this text's walks alone
set_option linter.unusedVariables false
set_option linter.unusedSimpArgs false
end Go.Proofs.Yteemcpcljdjpcaa.PBoundsJohnson
