/- Written by this session's program (wip/tools/myprint.py) out of the translation: functions, and what a call of each comes to. -/
import Derived.Test.YtlkljeghhahedaaPWalFramesx0
import Derived.Test.YtlkljeghhahedaaPWalFramesx1
import Derived.Test.YtlkljeghhahedaaPWalFramesx2
import Derived.Test.YtlkljeghhahedaaPWalFramesx3
import Derived.Test.YtlkljeghhahedaaPWalFramesx4
import Derived.Test.YtlkljeghhahedaaPWalFramesx5
namespace Go.Proofs.Ytlkljeghhahedaa.PWalFrames
open Go.RowKit Go.Proofs.YtlkljeghhahedaaW.PrintWords Go.Proofs.YtlkljeghhahedaaW.PrintLast Go.Proofs.YtlkljeghhahedaaW.PrintMore Go.Proofs.Ytlkljeghhahedaa.PBase
attribute [local go_sem] max2_int min2_int max_two min_two max_three min_three max_four min_four   -- for this text's walks alone
set_option linter.unusedVariables false
set_option linter.unusedSimpArgs false

end Go.Proofs.Ytlkljeghhahedaa.PWalFrames
