/- Written by this session's program (wip/tools/myprint.py) out of the translation: functions, and what a call of each comes to. -/
import Derived.Test.YtlkljeghhahedaaPBasex0
import Derived.Test.YtlkljeghhahedaaPBasex1
import Derived.Test.YtlkljeghhahedaaPBasex2
import Derived.Test.YtlkljeghhahedaaPBasex3
import Derived.Test.YtlkljeghhahedaaPBasex4
import Derived.Test.YtlkljeghhahedaaPBasex5
import Derived.Test.YtlkljeghhahedaaPBasex6
import Derived.Test.YtlkljeghhahedaaPBasex7
import Derived.Test.YtlkljeghhahedaaPBasex8
import Derived.Test.YtlkljeghhahedaaPBasex9
import Derived.Test.YtlkljeghhahedaaPBasex10
import Derived.Test.YtlkljeghhahedaaPBasex11
namespace Go.Proofs.Ytlkljeghhahedaa.PBase
open Go.RowKit Go.Proofs.YtlkljeghhahedaaW.PrintWords Go.Proofs.YtlkljeghhahedaaW.PrintLast Go.Proofs.YtlkljeghhahedaaW.PrintMore
attribute [local go_sem] max2_int min2_int max_two min_two max_three min_three max_four min_four   -- for this text's walks alone
set_option linter.unusedVariables false
set_option linter.unusedSimpArgs false

end Go.Proofs.Ytlkljeghhahedaa.PBase
