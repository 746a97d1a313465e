-- printed by a scratch copy of the print, turned (wip/tools/turn_print.py)
import Derived.Test.YtmihelfhofebpaaPBoundsGilbertx0
import Derived.Test.YtmihelfhofebpaaPBoundsGilbertx1
import Derived.Test.YtmihelfhofebpaaPBoundsGilbertx2
import Derived.Test.YtmihelfhofebpaaPBoundsGilbertx3
import Derived.Test.YtmihelfhofebpaaPBoundsGilbertx4
import Derived.Test.YtmihelfhofebpaaPBoundsGilbertx5
import Derived.Test.YtmihelfhofebpaaPBoundsGilbertx6
namespace Go.Proofs.Ytmihelfhofebpaa.PBoundsGilbert
open Go.RowKit Go.Proofs.YtmihelfhofebpaaW.PrintWords Go.Proofs.YtmihelfhofebpaaW.PrintLast Go.Proofs.YtmihelfhofebpaaW.PrintMore
attribute [local go_sem] max2_int min2_int max_two min_two max_three min_three max_four min_four   -- for this text's walks alone
set_option linter.unusedVariables false
set_option linter.unusedSimpArgs false

end Go.Proofs.Ytmihelfhofebpaa.PBoundsGilbert
