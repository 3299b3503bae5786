/- Written by this session's program (wip/tools/myprint.py) out of the translation: functions, and what a call of each comes to. -/
import Derived.Test.YtfbmgiflckdalaaProg
import Derived.Below
import Derived.Deep.Draws
import Derived.Deep.AppendLies
import Derived.Maps.AppendAt
import Derived.OwnWalk
import Derived.Laws.BytesArg
import Derived.Laws.MakeOwn
import Derived.Laws.OwnMore
import Derived.Deep.OwnRows
import Derived.Tactics
import Derived.Lib.ConvBytes
import Derived.Laws.Slices
import Derived.WalkKit
import Derived.KernelRfl
import Derived.RowKit3
import Derived.Deep.LoopGhost
import Derived.Deep.QuietTactic
import Derived.BigQuiet
import Derived.WideLaws
import Derived.Deep.DeepCutAuto
import Derived.Deep.CutBlock
import Derived.Deep.RegionHeld3
import Derived.Laws.Rows
import Derived.Lib.AppendStr
import Derived.ArgAppend
import Derived.Laws.IdiomCopy
import Derived.OrdersHeld
import Derived.Laws.BitsLemmas
import Derived.RowKit
import Derived.Test.YtfbmgiflckdalaaWWords
import Derived.Test.YtfbmgiflckdalaaWLast
import Derived.Test.YtfbmgiflckdalaaWTab
import Derived.Test.YtfbmgiflckdalaaWFour
import Derived.Test.YtfbmgiflckdalaaWQPut
import Derived.Test.YtfbmgiflckdalaaWApart
import Derived.Test.YtfbmgiflckdalaaWArr
import Derived.Test.YtfbmgiflckdalaaWZeros
import Derived.Test.YtfbmgiflckdalaaWFoot
import Derived.Test.YtfbmgiflckdalaaWKept
import Derived.Test.YtfbmgiflckdalaaWShare
import Derived.Test.YtfbmgiflckdalaaWN
import Derived.Test.YtfbmgiflckdalaaWFootNe
import Derived.Test.YtfbmgiflckdalaaWAt
import Derived.Test.YtfbmgiflckdalaaWEqStruct
import Derived.Test.YtfbmgiflckdalaaWRepsOne
import Derived.Test.YtfbmgiflckdalaaWInv
import Derived.Test.YtfbmgiflckdalaaWInvWords
import Derived.Test.YtfbmgiflckdalaaWGuard
import Derived.Test.YtfbmgiflckdalaaWNEv
import Derived.Test.YtfbmgiflckdalaaWMore
namespace Go.Proofs.Ytfbmgiflckdalaa.PSix
open Go.RowKit Go.Proofs.YtfbmgiflckdalaaW.PrintWords Go.Proofs.YtfbmgiflckdalaaW.PrintLast Go.Proofs.YtfbmgiflckdalaaW.PrintMore
attribute [local go_sem] max2_int min2_int max_two min_two max_three min_three max_four min_four   -- for this text's walks alone
set_option linter.unusedVariables false
set_option linter.unusedSimpArgs false



def errW : Option Int → Value
  | none => .nilIface
  | some c => .iface 0 (.int .i64 c)
theorem errW_none : errW none = .nilIface := rfl
theorem errW_some (c : Int) : errW (some c) = .iface 0 (.int .i64 c) := rfl

theorem info5 : (Try.prog.info? 5).map (fun i => (i.zero, i.size, i.bytes)) = some (some (.int .u8 0), 1, 1) := by kernel_rfl
theorem info9 : (Try.prog.info? 9).map (fun i => (i.zero, i.size, i.bytes)) = some (some (.string ⟨#[]⟩), 1, 16) := by kernel_rfl
-- the values' own types

end Go.Proofs.Ytfbmgiflckdalaa.PSix
