/- A part of the print of this row, cut down to what the row uses. -/
import Derived.Test.YtjignpnnmfdedaaQChannelPatternsx0
import Derived.Test.YtjignpnnmfdedaaQChannelPatternsx1
import Derived.Test.YtjignpnnmfdedaaQChannelPatternsx2
import Derived.Test.YtjignpnnmfdedaaQChannelPatternsx3
import Derived.Test.YtjignpnnmfdedaaQChannelPatternsx4
import Derived.Test.YtjignpnnmfdedaaQChannelPatternsx5
import Derived.Test.YtjignpnnmfdedaaQChannelPatternsx6
import Derived.Test.YtjignpnnmfdedaaQChannelPatternsx7
import Derived.Test.YtjignpnnmfdedaaQChannelPatternsx8
import Derived.Test.YtjignpnnmfdedaaQChannelPatternsx9
import Derived.Test.YtjignpnnmfdedaaQChannelPatternsx10
import Derived.Test.YtjignpnnmfdedaaQChannelPatternsx11
import Derived.Test.YtjignpnnmfdedaaQChannelPatternsx12
import Derived.Test.YtjignpnnmfdedaaQChannelPatternsx13
import Derived.Test.YtjignpnnmfdedaaQChannelPatternsx14
-- printed by a scratch copy of the print, turned (wip/tools/turn_print.py)
namespace Go.Proofs.Ytjignpnnmfdedaa.PChannelPatterns
open Go.RowKit Go.Proofs.YtjignpnnmfdedaaW.PrintWords Go.Proofs.YtjignpnnmfdedaaW.PrintLast Go.Proofs.YtjignpnnmfdedaaW.PrintMore
attribute [local go_sem] max2_int min2_int max_two min_two max_three min_three max_four min_four   -- for this text's walks alone
set_option linter.unusedVariables false
set_option linter.unusedSimpArgs false
end Go.Proofs.Ytjignpnnmfdedaa.PChannelPatterns
