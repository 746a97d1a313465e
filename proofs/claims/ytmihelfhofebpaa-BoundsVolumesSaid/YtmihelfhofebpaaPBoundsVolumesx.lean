-- printed by a scratch copy of the print, turned (wip/tools/turn_print.py)
import Derived.Test.YtmihelfhofebpaaPBoundsVolumesx0
import Derived.Test.YtmihelfhofebpaaPBoundsVolumesx1
import Derived.Test.YtmihelfhofebpaaPBoundsVolumesx2
import Derived.Test.YtmihelfhofebpaaPBoundsVolumesx3
import Derived.Test.YtmihelfhofebpaaPBoundsVolumesx4
import Derived.Test.YtmihelfhofebpaaPBoundsVolumesx5
import Derived.Test.YtmihelfhofebpaaPBoundsVolumesx6
namespace Go.Proofs.Ytmihelfhofebpaa.PBoundsVolumes
open Go.RowKit Go.Proofs.YtmihelfhofebpaaW.PrintWords Go.Proofs.YtmihelfhofebpaaW.PrintLast Go.Proofs.YtmihelfhofebpaaW.PrintMore
attribute [local go_sem] max2_int min2_int max_two min_two max_three min_three max_four min_four   -- for this text's walks alone
set_option linter.unusedVariables false
set_option linter.unusedSimpArgs false

end Go.Proofs.Ytmihelfhofebpaa.PBoundsVolumes
