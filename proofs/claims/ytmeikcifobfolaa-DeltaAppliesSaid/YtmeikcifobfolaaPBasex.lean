/- Written by this session's program (wip/tools/myprint.py) out of the translation: functions, and what a call of each comes to. -/
import Derived.Test.YtmeikcifobfolaaPBasex0
import Derived.Test.YtmeikcifobfolaaPBasex1
import Derived.Test.YtmeikcifobfolaaPBasex2
import Derived.Test.YtmeikcifobfolaaPBasex3
import Derived.Test.YtmeikcifobfolaaPBasex4
import Derived.Test.YtmeikcifobfolaaPBasex5
import Derived.Test.YtmeikcifobfolaaPBasex6
import Derived.Test.YtmeikcifobfolaaPBasex7
namespace Go.Proofs.Ytmeikcifobfolaa.PBase
open Go.RowKit Go.Proofs.YtmeikcifobfolaaW.PrintWords Go.Proofs.YtmeikcifobfolaaW.PrintLast Go.Proofs.YtmeikcifobfolaaW.PrintMore
attribute [local go_sem] max2_int min2_int max_two min_two max_three min_three max_four min_four   -- for this text's walks alone
set_option linter.unusedVariables false
set_option linter.unusedSimpArgs false

end Go.Proofs.Ytmeikcifobfolaa.PBase
