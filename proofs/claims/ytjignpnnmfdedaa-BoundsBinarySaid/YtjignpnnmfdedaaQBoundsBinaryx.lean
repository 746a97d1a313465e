/- A part of the print of this row, cut down to what the row uses. -/
import Derived.Test.YtjignpnnmfdedaaQBoundsBinaryx0
import Derived.Test.YtjignpnnmfdedaaQBoundsBinaryx1
import Derived.Test.YtjignpnnmfdedaaQBoundsBinaryx2
import Derived.Test.YtjignpnnmfdedaaQBoundsBinaryx3
import Derived.Test.YtjignpnnmfdedaaQBoundsBinaryx4
import Derived.Test.YtjignpnnmfdedaaQBoundsBinaryx5
import Derived.Test.YtjignpnnmfdedaaQBoundsBinaryx6
import Derived.Test.YtjignpnnmfdedaaQBoundsBinaryx7
import Derived.Test.YtjignpnnmfdedaaQBoundsBinaryx8
import Derived.Test.YtjignpnnmfdedaaQBoundsBinaryx9
import Derived.Test.YtjignpnnmfdedaaQBoundsBinaryx10
-- printed by a scratch copy of the print, turned (wip/tools/turn_print.py)
namespace Go.Proofs.Ytjignpnnmfdedaa.PBoundsBinary
open Go.RowKit Go.Proofs.YtjignpnnmfdedaaW.PrintWords Go.Proofs.YtjignpnnmfdedaaW.PrintLast Go.Proofs.YtjignpnnmfdedaaW.PrintMore
attribute [local go_sem] max2_int min2_int max_two min_two max_three min_three max_four min_four   -- for this text's walks alone
set_option linter.unusedVariables false
set_option linter.unusedSimpArgs false
end Go.Proofs.Ytjignpnnmfdedaa.PBoundsBinary
