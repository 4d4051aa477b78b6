-- Laid by a program of this session (wip/mkprint.py); checked by Lean alone
import Derived.Test.YtkafepjecpfoeaaProg
import Derived.Below
import Derived.Deep.Draws
import Derived.Deep.AppendLies
import Derived.Maps.AppendAt
import Derived.OwnWalk
import Derived.Laws.BytesArg
import Derived.Laws.MakeOwn
import Derived.Laws.OwnMore
import Derived.Deep.OwnRows
import Derived.Tactics
import Derived.Lib.ConvBytes
import Derived.Laws.Slices
import Derived.WalkKit
import Derived.KernelRfl
import Derived.RowKit3
import Derived.Deep.LoopGhost
import Derived.Deep.QuietTactic
import Derived.BigQuiet
import Derived.WideLaws
import Derived.Deep.DeepCutAuto
import Derived.Deep.CutBlock
import Derived.Deep.RegionHeld3
import Derived.Laws.Rows
import Derived.Lib.AppendStr
import Derived.ArgAppend
import Derived.Laws.IdiomCopy
import Derived.OrdersHeld
import Derived.Laws.BitsLemmas
import Derived.RowKit
import Derived.Test.YtkafepjecpfoeaaCrc
import Derived.Test.YtkafepjecpfoeaaWWords
import Derived.Test.YtkafepjecpfoeaaWLast
import Derived.Test.YtkafepjecpfoeaaWTab
import Derived.Test.YtkafepjecpfoeaaWFour
import Derived.Test.YtkafepjecpfoeaaWQPut
import Derived.Test.YtkafepjecpfoeaaWApart
import Derived.Test.YtkafepjecpfoeaaWArr
import Derived.Test.YtkafepjecpfoeaaWZeros
import Derived.Test.YtkafepjecpfoeaaWFoot
import Derived.Test.YtkafepjecpfoeaaWKept
import Derived.Test.YtkafepjecpfoeaaWShare
import Derived.Test.YtkafepjecpfoeaaWN
import Derived.Test.YtkafepjecpfoeaaWFootNe
import Derived.Test.YtkafepjecpfoeaaWAt
import Derived.Test.YtkafepjecpfoeaaWEqStruct
import Derived.Test.YtkafepjecpfoeaaWRepsOne
import Derived.Test.YtkafepjecpfoeaaWInv
import Derived.Test.YtkafepjecpfoeaaWInvWords
import Derived.Test.YtkafepjecpfoeaaWGuard
import Derived.Test.YtkafepjecpfoeaaWNEv
import Derived.Test.YtkafepjecpfoeaaWMore
namespace Go.Proofs.Ytkafepjecpfoeaa.PCrc
open Go.Proofs.Ytkafepjecpfoeaa.Given
open Go.RowKit Go.Proofs.YtkafepjecpfoeaaW.PrintWords Go.Proofs.YtkafepjecpfoeaaW.PrintLast Go.Proofs.YtkafepjecpfoeaaW.PrintMore
attribute [local go_sem] max2_int min2_int max_two min_two max_three min_three max_four min_four   -- for this text's walks alone
set_option linter.unusedVariables false
set_option linter.unusedSimpArgs false



def errW : Option Int → Value
  | none => .nilIface
  | some c => .iface 0 (.int .i64 c)
theorem errW_none : errW none = .nilIface := rfl
theorem errW_some (c : Int) : errW (some c) = .iface 0 (.int .i64 c) := rfl

theorem info5 : (Try.prog.info? 5).map (fun i => (i.zero, i.size, i.bytes)) = some (some (.int .u8 0), 1, 1) := by kernel_rfl
-- the values' own types

end Go.Proofs.Ytkafepjecpfoeaa.PCrc
