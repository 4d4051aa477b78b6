-- Laid by a program of this session (wip/prune.py, out of the kit's printed words); checked by Lean alone
import Derived.Test.YtggngbbkachpaaaWInv
import Derived.Test.YtggngbbkachpaaaWFootNe
namespace Go.Proofs.YtggngbbkachpaaaW.PrintWords
open Go.RowKit
end Go.Proofs.YtggngbbkachpaaaW.PrintWords
namespace Go.Proofs.YtggngbbkachpaaaW.PrintLast
section
variable {ops : Array Oper} {a : Act} {o og : Oper} {g : Nat} {t : Tmp} {u : Bool}
end
end Go.Proofs.YtggngbbkachpaaaW.PrintLast
