/- Written by this session's program (wip/tools/myprint.py) out of the translation: functions, and what a call of each comes to. -/
import Derived.Test.YtfbmgiflckdalaaPSixx0
import Derived.Test.YtfbmgiflckdalaaPSixx1
import Derived.Test.YtfbmgiflckdalaaPSixx2
import Derived.Test.YtfbmgiflckdalaaPSixx3
import Derived.Test.YtfbmgiflckdalaaPSixx4
namespace Go.Proofs.Ytfbmgiflckdalaa.PSix
open Go.RowKit Go.Proofs.YtfbmgiflckdalaaW.PrintWords Go.Proofs.YtfbmgiflckdalaaW.PrintLast Go.Proofs.YtfbmgiflckdalaaW.PrintMore
attribute [local go_sem] max2_int min2_int max_two min_two max_three min_three max_four min_four   -- for this text's walks alone
set_option linter.unusedVariables false
set_option linter.unusedSimpArgs false

end Go.Proofs.Ytfbmgiflckdalaa.PSix
