/- A part of the print of this row, cut down to what the row uses. -/
import Derived.Test.YtpjpbhjpobdenaaQChannelPolynomialsx0
import Derived.Test.YtpjpbhjpobdenaaQChannelPolynomialsx7
import Derived.Test.YtpjpbhjpobdenaaQChannelPolynomialsx8
import Derived.Test.YtpjpbhjpobdenaaQChannelPolynomialsWSq
-- printed by a scratch copy of the print, turned (wip/tools/turn_print.py)
namespace Go.Proofs.Ytpjpbhjpobdenaa.PNat
open Go.RowKit Go.Proofs.YtpjpbhjpobdenaaW.PrintWords Go.Proofs.YtpjpbhjpobdenaaW.PrintLast Go.Proofs.YtpjpbhjpobdenaaW.PrintMore
attribute [local go_sem] max2_int min2_int max_two min_two max_three min_three max_four min_four   -- for this text's walks alone
set_option linter.unusedVariables false
set_option linter.unusedSimpArgs false
/-! ### codewrightref01_small: function 67 -/
/-! ### codewrightref01_Choose: function 34 -/
end Go.Proofs.Ytpjpbhjpobdenaa.PNat
