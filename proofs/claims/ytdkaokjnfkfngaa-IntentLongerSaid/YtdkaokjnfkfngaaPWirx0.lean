-- Laid by a program of this session (wip/mkprint.py); checked by Lean alone
import Derived.Test.YtdkaokjnfkfngaaProg
import Derived.Below
import Derived.Deep.Draws
import Derived.Deep.AppendLies
import Derived.Maps.AppendAt
import Derived.OwnWalk
import Derived.Laws.BytesArg
import Derived.Laws.MakeOwn
import Derived.Laws.OwnMore
import Derived.Deep.OwnRows
import Derived.Tactics
import Derived.Lib.ConvBytes
import Derived.Laws.Slices
import Derived.WalkKit
import Derived.KernelRfl
import Derived.RowKit3
import Derived.Deep.LoopGhost
import Derived.Deep.QuietTactic
import Derived.BigQuiet
import Derived.WideLaws
import Derived.Deep.DeepCutAuto
import Derived.Deep.CutBlock
import Derived.Deep.RegionHeld3
import Derived.Laws.Rows
import Derived.Lib.AppendStr
import Derived.ArgAppend
import Derived.Laws.IdiomCopy
import Derived.OrdersHeld
import Derived.Laws.BitsLemmas
import Derived.RowKit
import Derived.Test.YtdkaokjnfkfngaaWWords
import Derived.Test.YtdkaokjnfkfngaaWLast
import Derived.Test.YtdkaokjnfkfngaaWTab
import Derived.Test.YtdkaokjnfkfngaaWFour
import Derived.Test.YtdkaokjnfkfngaaWQPut
import Derived.Test.YtdkaokjnfkfngaaWApart
import Derived.Test.YtdkaokjnfkfngaaWArr
import Derived.Test.YtdkaokjnfkfngaaWZeros
import Derived.Test.YtdkaokjnfkfngaaWFoot
import Derived.Test.YtdkaokjnfkfngaaWKept
import Derived.Test.YtdkaokjnfkfngaaWShare
import Derived.Test.YtdkaokjnfkfngaaWN
import Derived.Test.YtdkaokjnfkfngaaWFootNe
import Derived.Test.YtdkaokjnfkfngaaWAt
import Derived.Test.YtdkaokjnfkfngaaWEqStruct
import Derived.Test.YtdkaokjnfkfngaaWRepsOne
import Derived.Test.YtdkaokjnfkfngaaWInv
import Derived.Test.YtdkaokjnfkfngaaWInvWords
import Derived.Test.YtdkaokjnfkfngaaWGuard
import Derived.Test.YtdkaokjnfkfngaaWNEv
import Derived.Test.YtdkaokjnfkfngaaWMore
namespace Go.Proofs.Ytdkaokjnfkfngaa.PWir
open Go.RowKit Go.Proofs.YtdkaokjnfkfngaaW.PrintWords Go.Proofs.YtdkaokjnfkfngaaW.PrintLast Go.Proofs.YtdkaokjnfkfngaaW.PrintMore
attribute [local go_sem] max2_int min2_int max_two min_two max_three min_three max_four min_four   -- for this text's walks alone
set_option linter.unusedVariables false
set_option linter.unusedSimpArgs false



def errW : Option Int → Value
  | none => .nilIface
  | some c => .iface 0 (.int .i64 c)
theorem errW_none : errW none = .nilIface := rfl
theorem errW_some (c : Int) : errW (some c) = .iface 0 (.int .i64 c) := rfl

theorem info5 : (Try.prog.info? 5).map (fun i => (i.zero, i.size, i.bytes)) = some (some (.int .u8 0), 1, 1) := by kernel_rfl
-- the values' own types

end Go.Proofs.Ytdkaokjnfkfngaa.PWir
