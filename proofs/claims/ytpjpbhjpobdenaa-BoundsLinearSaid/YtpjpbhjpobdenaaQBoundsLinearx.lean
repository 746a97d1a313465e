/- A part of the print of this row, cut down to what the row uses. -/
import Derived.Test.YtpjpbhjpobdenaaQBoundsLinearx0
import Derived.Test.YtpjpbhjpobdenaaQBoundsLinearx1
import Derived.Test.YtpjpbhjpobdenaaQBoundsLinearx2
import Derived.Test.YtpjpbhjpobdenaaQBoundsLinearx3
import Derived.Test.YtpjpbhjpobdenaaQBoundsLinearx4
import Derived.Test.YtpjpbhjpobdenaaQBoundsLinearx5
import Derived.Test.YtpjpbhjpobdenaaQBoundsLinearx6
import Derived.Test.YtpjpbhjpobdenaaQBoundsLinearx7
import Derived.Test.YtpjpbhjpobdenaaQBoundsLinearx8
import Derived.Test.YtpjpbhjpobdenaaQBoundsLinearx9
-- printed by a scratch copy of the print, turned (wip/tools/turn_print.py)
namespace Go.Proofs.Ytpjpbhjpobdenaa.PBoundsLinear
open Go.RowKit Go.Proofs.YtpjpbhjpobdenaaW.PrintWords Go.Proofs.YtpjpbhjpobdenaaW.PrintLast Go.Proofs.YtpjpbhjpobdenaaW.PrintMore
attribute [local go_sem] max2_int min2_int max_two min_two max_three min_three max_four min_four   -- for this text's walks alone
set_option linter.unusedVariables false
set_option linter.unusedSimpArgs false
end Go.Proofs.Ytpjpbhjpobdenaa.PBoundsLinear
