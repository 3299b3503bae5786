/- Written by this session's program (wip/tools/myprint.py) out of the translation: functions, and what a call of each comes to. -/
import Derived.Test.YtmeikcifobfolaaProg
import Derived.Below
import Derived.Deep.Draws
import Derived.Deep.AppendLies
import Derived.Maps.AppendAt
import Derived.OwnWalk
import Derived.Laws.BytesArg
import Derived.Laws.MakeOwn
import Derived.Laws.OwnMore
import Derived.Deep.OwnRows
import Derived.Tactics
import Derived.Lib.ConvBytes
import Derived.Laws.Slices
import Derived.WalkKit
import Derived.KernelRfl
import Derived.RowKit3
import Derived.Deep.LoopGhost
import Derived.Deep.QuietTactic
import Derived.BigQuiet
import Derived.WideLaws
import Derived.Deep.DeepCutAuto
import Derived.Deep.CutBlock
import Derived.Deep.RegionHeld3
import Derived.Laws.Rows
import Derived.Lib.AppendStr
import Derived.ArgAppend
import Derived.Laws.IdiomCopy
import Derived.OrdersHeld
import Derived.Laws.BitsLemmas
import Derived.RowKit
import Derived.Test.YtmeikcifobfolaaDeltaAwake
import Derived.Test.YtmeikcifobfolaaPBasex
import Derived.Test.YtmeikcifobfolaaWWords
import Derived.Test.YtmeikcifobfolaaWLast
import Derived.Test.YtmeikcifobfolaaWTab
import Derived.Test.YtmeikcifobfolaaWFour
import Derived.Test.YtmeikcifobfolaaWQPut
import Derived.Test.YtmeikcifobfolaaWApart
import Derived.Test.YtmeikcifobfolaaWArr
import Derived.Test.YtmeikcifobfolaaWZeros
import Derived.Test.YtmeikcifobfolaaWFoot
import Derived.Test.YtmeikcifobfolaaWKept
import Derived.Test.YtmeikcifobfolaaWShare
import Derived.Test.YtmeikcifobfolaaWN
import Derived.Test.YtmeikcifobfolaaWFootNe
import Derived.Test.YtmeikcifobfolaaWAt
import Derived.Test.YtmeikcifobfolaaWEqStruct
import Derived.Test.YtmeikcifobfolaaWRepsOne
import Derived.Test.YtmeikcifobfolaaWInv
import Derived.Test.YtmeikcifobfolaaWInvWords
import Derived.Test.YtmeikcifobfolaaWGuard
import Derived.Test.YtmeikcifobfolaaWNEv
import Derived.Test.YtmeikcifobfolaaWMore
namespace Go.Proofs.Ytmeikcifobfolaa.PDeltaApplies
open Go.RowKit Go.Proofs.YtmeikcifobfolaaW.PrintWords Go.Proofs.YtmeikcifobfolaaW.PrintLast Go.Proofs.YtmeikcifobfolaaW.PrintMore Go.Proofs.Ytmeikcifobfolaa.PBase
attribute [local go_sem] max2_int min2_int max_two min_two max_three min_three max_four min_four   -- for this text's walks alone
set_option linter.unusedVariables false
set_option linter.unusedSimpArgs false



-- the values' own types

end Go.Proofs.Ytmeikcifobfolaa.PDeltaApplies
