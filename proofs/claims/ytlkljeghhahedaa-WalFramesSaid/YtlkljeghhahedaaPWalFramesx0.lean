/- Written by this session's program (wip/tools/myprint.py) out of the translation: functions, and what a call of each comes to. -/
import Derived.Test.YtlkljeghhahedaaProg
import Derived.Below
import Derived.Deep.Draws
import Derived.Deep.AppendLies
import Derived.Maps.AppendAt
import Derived.OwnWalk
import Derived.Laws.BytesArg
import Derived.Laws.MakeOwn
import Derived.Laws.OwnMore
import Derived.Deep.OwnRows
import Derived.Tactics
import Derived.Lib.ConvBytes
import Derived.Laws.Slices
import Derived.WalkKit
import Derived.KernelRfl
import Derived.RowKit3
import Derived.Deep.LoopGhost
import Derived.Deep.QuietTactic
import Derived.BigQuiet
import Derived.WideLaws
import Derived.Deep.DeepCutAuto
import Derived.Deep.CutBlock
import Derived.Deep.RegionHeld3
import Derived.Laws.Rows
import Derived.Lib.AppendStr
import Derived.ArgAppend
import Derived.Laws.IdiomCopy
import Derived.OrdersHeld
import Derived.Laws.BitsLemmas
import Derived.RowKit
import Derived.Test.YtlkljeghhahedaaWMine
import Derived.Test.YtlkljeghhahedaaRefSum
import Derived.Test.YtlkljeghhahedaaWalFrame
import Derived.Test.YtlkljeghhahedaaPBasex
import Derived.Test.YtlkljeghhahedaaWWords
import Derived.Test.YtlkljeghhahedaaWLast
import Derived.Test.YtlkljeghhahedaaWTab
import Derived.Test.YtlkljeghhahedaaWFour
import Derived.Test.YtlkljeghhahedaaWQPut
import Derived.Test.YtlkljeghhahedaaWApart
import Derived.Test.YtlkljeghhahedaaWArr
import Derived.Test.YtlkljeghhahedaaWZeros
import Derived.Test.YtlkljeghhahedaaWFoot
import Derived.Test.YtlkljeghhahedaaWKept
import Derived.Test.YtlkljeghhahedaaWShare
import Derived.Test.YtlkljeghhahedaaWN
import Derived.Test.YtlkljeghhahedaaWFootNe
import Derived.Test.YtlkljeghhahedaaWAt
import Derived.Test.YtlkljeghhahedaaWEqStruct
import Derived.Test.YtlkljeghhahedaaWRepsOne
import Derived.Test.YtlkljeghhahedaaWInv
import Derived.Test.YtlkljeghhahedaaWInvWords
import Derived.Test.YtlkljeghhahedaaWGuard
import Derived.Test.YtlkljeghhahedaaWNEv
import Derived.Test.YtlkljeghhahedaaWMore
namespace Go.Proofs.Ytlkljeghhahedaa.PWalFrames
open Go.RowKit Go.Proofs.YtlkljeghhahedaaW.PrintWords Go.Proofs.YtlkljeghhahedaaW.PrintLast Go.Proofs.YtlkljeghhahedaaW.PrintMore Go.Proofs.Ytlkljeghhahedaa.PBase
attribute [local go_sem] max2_int min2_int max_two min_two max_three min_three max_four min_four   -- for this text's walks alone
set_option linter.unusedVariables false
set_option linter.unusedSimpArgs false



-- the values' own types

end Go.Proofs.Ytlkljeghhahedaa.PWalFrames
