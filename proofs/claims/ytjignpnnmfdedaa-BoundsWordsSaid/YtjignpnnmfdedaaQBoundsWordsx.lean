/- A part of the print of this row, cut down to what the row uses. -/
import Derived.Test.YtjignpnnmfdedaaQBoundsWordsx0
import Derived.Test.YtjignpnnmfdedaaQBoundsWordsx1
import Derived.Test.YtjignpnnmfdedaaQBoundsWordsx2
import Derived.Test.YtjignpnnmfdedaaQBoundsWordsx3
import Derived.Test.YtjignpnnmfdedaaQBoundsWordsx4
import Derived.Test.YtjignpnnmfdedaaQBoundsWordsx5
import Derived.Test.YtjignpnnmfdedaaQBoundsWordsx6
import Derived.Test.YtjignpnnmfdedaaQBoundsWordsx7
import Derived.Test.YtjignpnnmfdedaaQBoundsWordsx8
import Derived.Test.YtjignpnnmfdedaaQBoundsWordsx9
-- printed by a scratch copy of the print, turned (wip/tools/turn_print.py)
namespace Go.Proofs.Ytjignpnnmfdedaa.PBoundsWords
open Go.RowKit Go.Proofs.YtjignpnnmfdedaaW.PrintWords Go.Proofs.YtjignpnnmfdedaaW.PrintLast Go.Proofs.YtjignpnnmfdedaaW.PrintMore
attribute [local go_sem] max2_int min2_int max_two min_two max_three min_three max_four min_four   -- for this text's walks alone
set_option linter.unusedVariables false
set_option linter.unusedSimpArgs false
end Go.Proofs.Ytjignpnnmfdedaa.PBoundsWords
