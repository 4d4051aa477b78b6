-- Laid by a program of this session (wip/prune.py, out of the kit's printed words); checked by Lean alone
import Derived.Test.YtcgbjkjacpeheaaWInv
import Derived.Test.YtcgbjkjacpeheaaWFootNe
namespace Go.Proofs.YtcgbjkjacpeheaaW.PrintWords
open Go.RowKit
end Go.Proofs.YtcgbjkjacpeheaaW.PrintWords
namespace Go.Proofs.YtcgbjkjacpeheaaW.PrintLast
section
variable {ops : Array Oper} {a : Act} {o og : Oper} {g : Nat} {t : Tmp} {u : Bool}
end
end Go.Proofs.YtcgbjkjacpeheaaW.PrintLast
