/-
  No cell of these rows narrows 'for every input' (looked for: loops, veiled, ifaces, maps, wideKeys, modest, calm, conditions, laid).
  DERIVED. THE GIVEN ROWS OF THIS SEAT. 5 by the template 'for every input the law returns true; each argument reads behind the call as it read before'; 0 by the template 'total and deterministic' (their statements: YtmnpejoolbipeaaTotals.lean).
  GIVEN WITH THE SEED: the statements are not yours to turn. If you find one false, say at which input.
  Laid BY PROGRAM, IN A SANDBOX (cutbox-rows.mjs): the forced cells as the released guide's own fill.sh prints them over the translation 857748f0c9b15969… (all of the seat's roots in one cut). By AI agents, Wed Nov 11 2026. No macro, syntax, notation, axiom, sorry.
-/
import Derived.Test.YtmnpejoolbipeaaChecked
import GoSem.Claim
import GoSem.ClaimJoined
import GoSem.ClaimMapViews
import Derived.JoinedTies
import Derived.KernelRfl
namespace Go.Proofs.Ytmnpejoolbipeaa
/- THE CELL 'sum', in the pinned program and in every row, IS THE sha256 OF THE DUMP (.gsa) THAT YtmnpejoolbipeaaProg.lean LOADS. Nothing in Lean hashes anything: it is a label: what it is worth is what the hold of that sum in a sandbox is worth. -/
noncomputable def Try.pinned : Pinned := { name := "ytmnpejoolbipeaa", sum := "857748f0c9b159699db3b98ea50dc062afffe62fcc55fc3c598c0c6dab4da8ee", checked := Try.checked }
namespace Rows
def none {H : Type} : Left H := { results := [], args := [] }

/-- 'sheetpilelaw15.RingNewest': WHATEVER THE INPUT: true; the input reads as it did. -/
def ringNewestSpec : ChangeSpec := { name := "ringNewest", fn := fun _ => fun
  | [d] => { results := [.lit (.bool true)], args := [d] }
  | _ => none }
def ringNewestRow : OpenClaim := { program := "ytmnpejoolbipeaa", sum := "857748f0c9b159699db3b98ea50dc062afffe62fcc55fc3c598c0c6dab4da8ee", func := "sheetpile/sheetpilelaw15.RingNewest", spec := "ringNewest", unfollowed := true, recurses := true, apart := false }
def RingNewestSaid : Prop := ringNewestRow.holds Try.pinned (OpenSpec.ofChange ringNewestSpec)

/-- ITS FALSE NEIGHBOUR: 'it returns false'. Refute it at one input. -/
def ringNewestWrong : ChangeSpec := { name := "ringNewest", fn := fun _ => fun
  | [d] => { results := [.lit (.bool false)], args := [d] }
  | _ => none }
def RingNewestWrongFalsely : Prop := ringNewestRow.holds Try.pinned (OpenSpec.ofChange ringNewestWrong)

/-- 'sheetpilelaw15.RingGathers': WHATEVER THE INPUT: true; the input reads as it did. -/
def ringGathersSpec : ChangeSpec := { name := "ringGathers", fn := fun _ => fun
  | [d] => { results := [.lit (.bool true)], args := [d] }
  | _ => none }
def ringGathersRow : OpenClaim := { program := "ytmnpejoolbipeaa", sum := "857748f0c9b159699db3b98ea50dc062afffe62fcc55fc3c598c0c6dab4da8ee", func := "sheetpile/sheetpilelaw15.RingGathers", spec := "ringGathers", unfollowed := true, recurses := true, apart := false }
def RingGathersSaid : Prop := ringGathersRow.holds Try.pinned (OpenSpec.ofChange ringGathersSpec)

/-- ITS FALSE NEIGHBOUR: 'it returns false'. Refute it at one input. -/
def ringGathersWrong : ChangeSpec := { name := "ringGathers", fn := fun _ => fun
  | [d] => { results := [.lit (.bool false)], args := [d] }
  | _ => none }
def RingGathersWrongFalsely : Prop := ringGathersRow.holds Try.pinned (OpenSpec.ofChange ringGathersWrong)

/-- 'sheetpilelaw15.RingTwice': WHATEVER THE INPUT: true; the input reads as it did. -/
def ringTwiceSpec : ChangeSpec := { name := "ringTwice", fn := fun _ => fun
  | [d] => { results := [.lit (.bool true)], args := [d] }
  | _ => none }
def ringTwiceRow : OpenClaim := { program := "ytmnpejoolbipeaa", sum := "857748f0c9b159699db3b98ea50dc062afffe62fcc55fc3c598c0c6dab4da8ee", func := "sheetpile/sheetpilelaw15.RingTwice", spec := "ringTwice", unfollowed := true, recurses := true, apart := false }
def RingTwiceSaid : Prop := ringTwiceRow.holds Try.pinned (OpenSpec.ofChange ringTwiceSpec)

/-- ITS FALSE NEIGHBOUR: 'it returns false'. Refute it at one input. -/
def ringTwiceWrong : ChangeSpec := { name := "ringTwice", fn := fun _ => fun
  | [d] => { results := [.lit (.bool false)], args := [d] }
  | _ => none }
def RingTwiceWrongFalsely : Prop := ringTwiceRow.holds Try.pinned (OpenSpec.ofChange ringTwiceWrong)

/-- 'sheetpilelaw15.RingBehind': WHATEVER THE INPUT: true; the input reads as it did. -/
def ringBehindSpec : ChangeSpec := { name := "ringBehind", fn := fun _ => fun
  | [d1, d2, d3] => { results := [.lit (.bool true)], args := [d1, d2, d3] }
  | _ => none }
def ringBehindRow : OpenClaim := { program := "ytmnpejoolbipeaa", sum := "857748f0c9b159699db3b98ea50dc062afffe62fcc55fc3c598c0c6dab4da8ee", func := "sheetpile/sheetpilelaw15.RingBehind", spec := "ringBehind", unfollowed := true, recurses := true, apart := false }
def RingBehindSaid : Prop := ringBehindRow.holds Try.pinned (OpenSpec.ofChange ringBehindSpec)

/-- ITS FALSE NEIGHBOUR: 'it returns false'. Refute it at one input. -/
def ringBehindWrong : ChangeSpec := { name := "ringBehind", fn := fun _ => fun
  | [d1, d2, d3] => { results := [.lit (.bool false)], args := [d1, d2, d3] }
  | _ => none }
def RingBehindWrongFalsely : Prop := ringBehindRow.holds Try.pinned (OpenSpec.ofChange ringBehindWrong)

/-- 'sheetpilelaw15.RingForeign': WHATEVER THE INPUT: true; the input reads as it did. -/
def ringForeignSpec : ChangeSpec := { name := "ringForeign", fn := fun _ => fun
  | [d1, d2, d3] => { results := [.lit (.bool true)], args := [d1, d2, d3] }
  | _ => none }
def ringForeignRow : OpenClaim := { program := "ytmnpejoolbipeaa", sum := "857748f0c9b159699db3b98ea50dc062afffe62fcc55fc3c598c0c6dab4da8ee", func := "sheetpile/sheetpilelaw15.RingForeign", spec := "ringForeign", unfollowed := true, recurses := true, apart := false }
def RingForeignSaid : Prop := ringForeignRow.holds Try.pinned (OpenSpec.ofChange ringForeignSpec)

/-- ITS FALSE NEIGHBOUR: 'it returns false'. Refute it at one input. -/
def ringForeignWrong : ChangeSpec := { name := "ringForeign", fn := fun _ => fun
  | [d1, d2, d3] => { results := [.lit (.bool false)], args := [d1, d2, d3] }
  | _ => none }
def RingForeignWrongFalsely : Prop := ringForeignRow.holds Try.pinned (OpenSpec.ofChange ringForeignWrong)

/- THE SECOND FORM. 'bulk': how many values and letters a reading holds, each counted each time it is reached (what is shared counts as often as it is met; a slice's spare places count too). A statement '..UptoSaid' is the law's where the arguments, and the package variables that the reading takes, are together of bulk at most 1048576: NARROWER than '..Said'. Prove '..Said' where nothing that the law and all that it calls make is longer than what came in: it says more and counts as full. Else prove '..UptoSaid'. A law counts once. -/
mutual
def uptoBulk {H : Type} : DataW H → Nat
  | .lit (.string bytes) => bytes.length + 1
  | .lit _ => 1
  | .nil => 1
  | .ptr d => uptoBulk d + 1
  | .slice elems spare => uptoBulkAll elems + uptoBulkAll spare + 1
  | .agg parts => uptoBulkAll parts + 1
  | .iface _ d => uptoBulk d + 1
  | .map entries => uptoBulkEntries entries + 1
  | .held _ => 1
def uptoBulkAll {H : Type} : List (DataW H) → Nat
  | [] => 0
  | d :: r => uptoBulk d + uptoBulkAll r
def uptoBulkEntries {H : Type} : List (Lit × DataW H) → Nat
  | [] => 0
  | x :: r => uptoBulkEntry x + uptoBulkEntries r
def uptoBulkEntry {H : Type} : Lit × DataW H → Nat
  | (.string bytes, d) => bytes.length + uptoBulk d + 1
  | (_, d) => uptoBulk d + 1
 end
def uptoSmall : (H : Type) → List (DataW H) → Bool := fun _ ds => decide (uptoBulkAll ds ≤ 1048576)
def OpenSpec.upto (s : _root_.Go.ChangeSpec) : _root_.Go.OpenSpec := { _root_.Go.OpenSpec.ofChange s with cond := some uptoSmall }

/-- 'sheetpilelaw15.RingNewest', WHERE WHAT IT READS IS OF BULK AT MOST 1048576: true; the input reads as it did. -/
def ringNewestUptoRow : OpenClaim := { program := "ytmnpejoolbipeaa", sum := "857748f0c9b159699db3b98ea50dc062afffe62fcc55fc3c598c0c6dab4da8ee", func := "sheetpile/sheetpilelaw15.RingNewest", spec := "ringNewest", unfollowed := true, recurses := true, apart := false, narrowed := true }
def RingNewestUptoSaid : Prop := ringNewestUptoRow.holds Try.pinned (OpenSpec.upto ringNewestSpec)

/-- 'sheetpilelaw15.RingGathers', WHERE WHAT IT READS IS OF BULK AT MOST 1048576: true; the input reads as it did. -/
def ringGathersUptoRow : OpenClaim := { program := "ytmnpejoolbipeaa", sum := "857748f0c9b159699db3b98ea50dc062afffe62fcc55fc3c598c0c6dab4da8ee", func := "sheetpile/sheetpilelaw15.RingGathers", spec := "ringGathers", unfollowed := true, recurses := true, apart := false, narrowed := true }
def RingGathersUptoSaid : Prop := ringGathersUptoRow.holds Try.pinned (OpenSpec.upto ringGathersSpec)

/-- 'sheetpilelaw15.RingTwice', WHERE WHAT IT READS IS OF BULK AT MOST 1048576: true; the input reads as it did. -/
def ringTwiceUptoRow : OpenClaim := { program := "ytmnpejoolbipeaa", sum := "857748f0c9b159699db3b98ea50dc062afffe62fcc55fc3c598c0c6dab4da8ee", func := "sheetpile/sheetpilelaw15.RingTwice", spec := "ringTwice", unfollowed := true, recurses := true, apart := false, narrowed := true }
def RingTwiceUptoSaid : Prop := ringTwiceUptoRow.holds Try.pinned (OpenSpec.upto ringTwiceSpec)

/-- 'sheetpilelaw15.RingBehind', WHERE WHAT IT READS IS OF BULK AT MOST 1048576: true; the input reads as it did. -/
def ringBehindUptoRow : OpenClaim := { program := "ytmnpejoolbipeaa", sum := "857748f0c9b159699db3b98ea50dc062afffe62fcc55fc3c598c0c6dab4da8ee", func := "sheetpile/sheetpilelaw15.RingBehind", spec := "ringBehind", unfollowed := true, recurses := true, apart := false, narrowed := true }
def RingBehindUptoSaid : Prop := ringBehindUptoRow.holds Try.pinned (OpenSpec.upto ringBehindSpec)

/-- 'sheetpilelaw15.RingForeign', WHERE WHAT IT READS IS OF BULK AT MOST 1048576: true; the input reads as it did. -/
def ringForeignUptoRow : OpenClaim := { program := "ytmnpejoolbipeaa", sum := "857748f0c9b159699db3b98ea50dc062afffe62fcc55fc3c598c0c6dab4da8ee", func := "sheetpile/sheetpilelaw15.RingForeign", spec := "ringForeign", unfollowed := true, recurses := true, apart := false, narrowed := true }
def RingForeignUptoSaid : Prop := ringForeignUptoRow.holds Try.pinned (OpenSpec.upto ringForeignSpec)

end Rows
end Go.Proofs.Ytmnpejoolbipeaa
