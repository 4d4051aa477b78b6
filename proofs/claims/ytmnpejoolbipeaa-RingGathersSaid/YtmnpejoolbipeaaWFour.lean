-- Laid by a program of this session (wip/prune.py, out of the kit's printed words); checked by Lean alone
import Derived.Test.YtmnpejoolbipeaaWTab
/-! ### 56. Four, five, six operations that may come up next, in any order -/
namespace Go.Proofs.YtmnpejoolbipeaaW.PrintLast
section
variable {P : Program} {ops : Array Oper} {Q : Exit → Act → World → Prop} {md : Region.Mode} {S : World → Prop} {ds : List Nat} {T : Bool × List (List Nat × List Nat)}
end
end Go.Proofs.YtmnpejoolbipeaaW.PrintLast
