/- A part of the print of this row, cut down to what the row uses. -/
import Derived.Test.YtjignpnnmfdedaaQBoundsBallsx0
import Derived.Test.YtjignpnnmfdedaaQBoundsBallsx1
import Derived.Test.YtjignpnnmfdedaaQBoundsBallsx2
import Derived.Test.YtjignpnnmfdedaaQBoundsBallsx3
import Derived.Test.YtjignpnnmfdedaaQBoundsBallsx4
import Derived.Test.YtjignpnnmfdedaaQBoundsBallsx5
import Derived.Test.YtjignpnnmfdedaaQBoundsBallsx6
import Derived.Test.YtjignpnnmfdedaaQBoundsBallsx7
import Derived.Test.YtjignpnnmfdedaaQBoundsBallsx8
import Derived.Test.YtjignpnnmfdedaaQBoundsBallsx9
import Derived.Test.YtjignpnnmfdedaaQBoundsBallsx10
import Derived.Test.YtjignpnnmfdedaaQBoundsBallsx11
import Derived.Test.YtjignpnnmfdedaaQBoundsBallsx12
-- printed by a scratch copy of the print, turned (wip/tools/turn_print.py)
namespace Go.Proofs.Ytjignpnnmfdedaa.PBoundsBalls
open Go.RowKit Go.Proofs.YtjignpnnmfdedaaW.PrintWords Go.Proofs.YtjignpnnmfdedaaW.PrintLast Go.Proofs.YtjignpnnmfdedaaW.PrintMore
attribute [local go_sem] max2_int min2_int max_two min_two max_three min_three max_four min_four   -- for this text's walks alone
set_option linter.unusedVariables false
set_option linter.unusedSimpArgs false
end Go.Proofs.Ytjignpnnmfdedaa.PBoundsBalls
