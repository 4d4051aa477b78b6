-- Laid by a program of this session (wip/prune.py, out of the kit's printed words); checked by Lean alone
import Derived.Test.YtmnpejoolbipeaaWInv
import Derived.Test.YtmnpejoolbipeaaWFootNe
namespace Go.Proofs.YtmnpejoolbipeaaW.PrintWords
open Go.RowKit
end Go.Proofs.YtmnpejoolbipeaaW.PrintWords
namespace Go.Proofs.YtmnpejoolbipeaaW.PrintLast
section
variable {ops : Array Oper} {a : Act} {o og : Oper} {g : Nat} {t : Tmp} {u : Bool}
end
end Go.Proofs.YtmnpejoolbipeaaW.PrintLast
