/-
  No cell of these rows narrows 'for every input' (looked for: loops, veiled, ifaces, maps, wideKeys, modest, calm, conditions, laid).
  DERIVED. THE GIVEN ROWS OF THIS SEAT. 12 by the template 'for every input the law returns true; each argument reads behind the call as it read before'; 0 by the template 'total and deterministic' (their statements: YtcgbjkjacpeheaaTotals.lean).
  GIVEN WITH THE SEED: the statements are not yours to turn. If you find one false, say at which input.
  Laid BY PROGRAM, IN A SANDBOX (cutbox-rows.mjs): the forced cells as the released guide's own fill.sh prints them over the translation 402cebd5a4c63fec… (all of the seat's roots in one cut). By AI agents, Wed Nov 11 2026. No macro, syntax, notation, axiom, sorry.
-/
import Derived.Test.YtcgbjkjacpeheaaChecked
import GoSem.Claim
import GoSem.ClaimJoined
import GoSem.ClaimMapViews
import Derived.JoinedTies
import Derived.KernelRfl
namespace Go.Proofs.Ytcgbjkjacpeheaa
/- THE CELL 'sum', in the pinned program and in every row, IS THE sha256 OF THE DUMP (.gsa) THAT YtcgbjkjacpeheaaProg.lean LOADS. Nothing in Lean hashes anything: it is a label: what it is worth is what the hold of that sum in a sandbox is worth. -/
noncomputable def Try.pinned : Pinned := { name := "ytcgbjkjacpeheaa", sum := "402cebd5a4c63feca3707d9635ec2e6c5e736fd6a8f71965d82ed9ce644733a4", checked := Try.checked }
namespace Rows
def none {H : Type} : Left H := { results := [], args := [] }

/-- 'sheetpilelaw19.FrameWrites': WHATEVER THE INPUT: true; the input reads as it did. -/
def frameWritesSpec : ChangeSpec := { name := "frameWrites", fn := fun _ => fun
  | [d] => { results := [.lit (.bool true)], args := [d] }
  | _ => none }
def frameWritesRow : OpenClaim := { program := "ytcgbjkjacpeheaa", sum := "402cebd5a4c63feca3707d9635ec2e6c5e736fd6a8f71965d82ed9ce644733a4", func := "sheetpile/sheetpilelaw19.FrameWrites", spec := "frameWrites", inPlace := ["internal/abi.NoEscape"], unfollowed := true, recurses := true, apart := false }
def FrameWritesSaid : Prop := frameWritesRow.holds Try.pinned (OpenSpec.ofChange frameWritesSpec)

/-- ITS FALSE NEIGHBOUR: 'it returns false'. Refute it at one input. -/
def frameWritesWrong : ChangeSpec := { name := "frameWrites", fn := fun _ => fun
  | [d] => { results := [.lit (.bool false)], args := [d] }
  | _ => none }
def FrameWritesWrongFalsely : Prop := frameWritesRow.holds Try.pinned (OpenSpec.ofChange frameWritesWrong)

/-- 'sheetpilelaw19.FrameReads': WHATEVER THE INPUT: true; the input reads as it did. -/
def frameReadsSpec : ChangeSpec := { name := "frameReads", fn := fun _ => fun
  | [d] => { results := [.lit (.bool true)], args := [d] }
  | _ => none }
def frameReadsRow : OpenClaim := { program := "ytcgbjkjacpeheaa", sum := "402cebd5a4c63feca3707d9635ec2e6c5e736fd6a8f71965d82ed9ce644733a4", func := "sheetpile/sheetpilelaw19.FrameReads", spec := "frameReads", inPlace := ["internal/abi.NoEscape"], unfollowed := true, recurses := true, apart := false }
def FrameReadsSaid : Prop := frameReadsRow.holds Try.pinned (OpenSpec.ofChange frameReadsSpec)

/-- ITS FALSE NEIGHBOUR: 'it returns false'. Refute it at one input. -/
def frameReadsWrong : ChangeSpec := { name := "frameReads", fn := fun _ => fun
  | [d] => { results := [.lit (.bool false)], args := [d] }
  | _ => none }
def FrameReadsWrongFalsely : Prop := frameReadsRow.holds Try.pinned (OpenSpec.ofChange frameReadsWrong)

/-- 'sheetpilelaw19.FrameBack': WHATEVER THE INPUT: true; the input reads as it did. -/
def frameBackSpec : ChangeSpec := { name := "frameBack", fn := fun _ => fun
  | [d1, d2, d3] => { results := [.lit (.bool true)], args := [d1, d2, d3] }
  | _ => none }
def frameBackRow : OpenClaim := { program := "ytcgbjkjacpeheaa", sum := "402cebd5a4c63feca3707d9635ec2e6c5e736fd6a8f71965d82ed9ce644733a4", func := "sheetpile/sheetpilelaw19.FrameBack", spec := "frameBack", inPlace := ["internal/abi.NoEscape"], unfollowed := true, recurses := true, apart := false }
def FrameBackSaid : Prop := frameBackRow.holds Try.pinned (OpenSpec.ofChange frameBackSpec)

/-- ITS FALSE NEIGHBOUR: 'it returns false'. Refute it at one input. -/
def frameBackWrong : ChangeSpec := { name := "frameBack", fn := fun _ => fun
  | [d1, d2, d3] => { results := [.lit (.bool false)], args := [d1, d2, d3] }
  | _ => none }
def FrameBackWrongFalsely : Prop := frameBackRow.holds Try.pinned (OpenSpec.ofChange frameBackWrong)

/-- 'sheetpilelaw19.FrameSeen': WHATEVER THE INPUT: true; the input reads as it did. -/
def frameSeenSpec : ChangeSpec := { name := "frameSeen", fn := fun _ => fun
  | [d1, d2, d3] => { results := [.lit (.bool true)], args := [d1, d2, d3] }
  | _ => none }
def frameSeenRow : OpenClaim := { program := "ytcgbjkjacpeheaa", sum := "402cebd5a4c63feca3707d9635ec2e6c5e736fd6a8f71965d82ed9ce644733a4", func := "sheetpile/sheetpilelaw19.FrameSeen", spec := "frameSeen", inPlace := ["internal/abi.NoEscape"], unfollowed := true, recurses := true, apart := false }
def FrameSeenSaid : Prop := frameSeenRow.holds Try.pinned (OpenSpec.ofChange frameSeenSpec)

/-- ITS FALSE NEIGHBOUR: 'it returns false'. Refute it at one input. -/
def frameSeenWrong : ChangeSpec := { name := "frameSeen", fn := fun _ => fun
  | [d1, d2, d3] => { results := [.lit (.bool false)], args := [d1, d2, d3] }
  | _ => none }
def FrameSeenWrongFalsely : Prop := frameSeenRow.holds Try.pinned (OpenSpec.ofChange frameSeenWrong)

/-- 'sheetpilelaw19.FrameApart': WHATEVER THE INPUT: true; the input reads as it did. -/
def frameApartSpec : ChangeSpec := { name := "frameApart", fn := fun _ => fun
  | [d1, d2] => { results := [.lit (.bool true)], args := [d1, d2] }
  | _ => none }
def frameApartRow : OpenClaim := { program := "ytcgbjkjacpeheaa", sum := "402cebd5a4c63feca3707d9635ec2e6c5e736fd6a8f71965d82ed9ce644733a4", func := "sheetpile/sheetpilelaw19.FrameApart", spec := "frameApart", inPlace := ["internal/abi.NoEscape"], unfollowed := true, recurses := true, apart := false }
def FrameApartSaid : Prop := frameApartRow.holds Try.pinned (OpenSpec.ofChange frameApartSpec)

/-- ITS FALSE NEIGHBOUR: 'it returns false'. Refute it at one input. -/
def frameApartWrong : ChangeSpec := { name := "frameApart", fn := fun _ => fun
  | [d1, d2] => { results := [.lit (.bool false)], args := [d1, d2] }
  | _ => none }
def FrameApartWrongFalsely : Prop := frameApartRow.holds Try.pinned (OpenSpec.ofChange frameApartWrong)

/-- 'sheetpilelaw19.FrameAgain': WHATEVER THE INPUT: true; the input reads as it did. -/
def frameAgainSpec : ChangeSpec := { name := "frameAgain", fn := fun _ => fun
  | [d] => { results := [.lit (.bool true)], args := [d] }
  | _ => none }
def frameAgainRow : OpenClaim := { program := "ytcgbjkjacpeheaa", sum := "402cebd5a4c63feca3707d9635ec2e6c5e736fd6a8f71965d82ed9ce644733a4", func := "sheetpile/sheetpilelaw19.FrameAgain", spec := "frameAgain", inPlace := ["internal/abi.NoEscape"], unfollowed := true, recurses := true, apart := false }
def FrameAgainSaid : Prop := frameAgainRow.holds Try.pinned (OpenSpec.ofChange frameAgainSpec)

/-- ITS FALSE NEIGHBOUR: 'it returns false'. Refute it at one input. -/
def frameAgainWrong : ChangeSpec := { name := "frameAgain", fn := fun _ => fun
  | [d] => { results := [.lit (.bool false)], args := [d] }
  | _ => none }
def FrameAgainWrongFalsely : Prop := frameAgainRow.holds Try.pinned (OpenSpec.ofChange frameAgainWrong)

/-- 'sheetpilelaw20.ScanTells': WHATEVER THE INPUT: true; the input reads as it did. -/
def scanTellsSpec : ChangeSpec := { name := "scanTells", fn := fun _ => fun
  | [d] => { results := [.lit (.bool true)], args := [d] }
  | _ => none }
def scanTellsRow : OpenClaim := { program := "ytcgbjkjacpeheaa", sum := "402cebd5a4c63feca3707d9635ec2e6c5e736fd6a8f71965d82ed9ce644733a4", func := "sheetpile/sheetpilelaw20.ScanTells", spec := "scanTells", inPlace := ["internal/abi.NoEscape"], unfollowed := true, recurses := true, apart := false }
def ScanTellsSaid : Prop := scanTellsRow.holds Try.pinned (OpenSpec.ofChange scanTellsSpec)

/-- ITS FALSE NEIGHBOUR: 'it returns false'. Refute it at one input. -/
def scanTellsWrong : ChangeSpec := { name := "scanTells", fn := fun _ => fun
  | [d] => { results := [.lit (.bool false)], args := [d] }
  | _ => none }
def ScanTellsWrongFalsely : Prop := scanTellsRow.holds Try.pinned (OpenSpec.ofChange scanTellsWrong)

/-- 'sheetpilelaw20.ScanWrites': WHATEVER THE INPUT: true; the input reads as it did. -/
def scanWritesSpec : ChangeSpec := { name := "scanWrites", fn := fun _ => fun
  | [d1, d2] => { results := [.lit (.bool true)], args := [d1, d2] }
  | _ => none }
def scanWritesRow : OpenClaim := { program := "ytcgbjkjacpeheaa", sum := "402cebd5a4c63feca3707d9635ec2e6c5e736fd6a8f71965d82ed9ce644733a4", func := "sheetpile/sheetpilelaw20.ScanWrites", spec := "scanWrites", inPlace := ["internal/abi.NoEscape"], unfollowed := true, recurses := true, apart := false }
def ScanWritesSaid : Prop := scanWritesRow.holds Try.pinned (OpenSpec.ofChange scanWritesSpec)

/-- ITS FALSE NEIGHBOUR: 'it returns false'. Refute it at one input. -/
def scanWritesWrong : ChangeSpec := { name := "scanWrites", fn := fun _ => fun
  | [d1, d2] => { results := [.lit (.bool false)], args := [d1, d2] }
  | _ => none }
def ScanWritesWrongFalsely : Prop := scanWritesRow.holds Try.pinned (OpenSpec.ofChange scanWritesWrong)

/-- 'sheetpilelaw20.ScanCut': WHATEVER THE INPUT: true; the input reads as it did. -/
def scanCutSpec : ChangeSpec := { name := "scanCut", fn := fun _ => fun
  | [d1, d2, d3] => { results := [.lit (.bool true)], args := [d1, d2, d3] }
  | _ => none }
def scanCutRow : OpenClaim := { program := "ytcgbjkjacpeheaa", sum := "402cebd5a4c63feca3707d9635ec2e6c5e736fd6a8f71965d82ed9ce644733a4", func := "sheetpile/sheetpilelaw20.ScanCut", spec := "scanCut", inPlace := ["internal/abi.NoEscape"], unfollowed := true, recurses := true, apart := false }
def ScanCutSaid : Prop := scanCutRow.holds Try.pinned (OpenSpec.ofChange scanCutSpec)

/-- ITS FALSE NEIGHBOUR: 'it returns false'. Refute it at one input. -/
def scanCutWrong : ChangeSpec := { name := "scanCut", fn := fun _ => fun
  | [d1, d2, d3] => { results := [.lit (.bool false)], args := [d1, d2, d3] }
  | _ => none }
def ScanCutWrongFalsely : Prop := scanCutRow.holds Try.pinned (OpenSpec.ofChange scanCutWrong)

/-- 'sheetpilelaw20.ScanAgain': WHATEVER THE INPUT: true; the input reads as it did. -/
def scanAgainSpec : ChangeSpec := { name := "scanAgain", fn := fun _ => fun
  | [d] => { results := [.lit (.bool true)], args := [d] }
  | _ => none }
def scanAgainRow : OpenClaim := { program := "ytcgbjkjacpeheaa", sum := "402cebd5a4c63feca3707d9635ec2e6c5e736fd6a8f71965d82ed9ce644733a4", func := "sheetpile/sheetpilelaw20.ScanAgain", spec := "scanAgain", inPlace := ["internal/abi.NoEscape"], unfollowed := true, recurses := true, apart := false }
def ScanAgainSaid : Prop := scanAgainRow.holds Try.pinned (OpenSpec.ofChange scanAgainSpec)

/-- ITS FALSE NEIGHBOUR: 'it returns false'. Refute it at one input. -/
def scanAgainWrong : ChangeSpec := { name := "scanAgain", fn := fun _ => fun
  | [d] => { results := [.lit (.bool false)], args := [d] }
  | _ => none }
def ScanAgainWrongFalsely : Prop := scanAgainRow.holds Try.pinned (OpenSpec.ofChange scanAgainWrong)

/-- 'sheetpilelaw20.ScanOn': WHATEVER THE INPUT: true; the input reads as it did. -/
def scanOnSpec : ChangeSpec := { name := "scanOn", fn := fun _ => fun
  | [d1, d2, d3] => { results := [.lit (.bool true)], args := [d1, d2, d3] }
  | _ => none }
def scanOnRow : OpenClaim := { program := "ytcgbjkjacpeheaa", sum := "402cebd5a4c63feca3707d9635ec2e6c5e736fd6a8f71965d82ed9ce644733a4", func := "sheetpile/sheetpilelaw20.ScanOn", spec := "scanOn", inPlace := ["internal/abi.NoEscape"], unfollowed := true, recurses := true, apart := false }
def ScanOnSaid : Prop := scanOnRow.holds Try.pinned (OpenSpec.ofChange scanOnSpec)

/-- ITS FALSE NEIGHBOUR: 'it returns false'. Refute it at one input. -/
def scanOnWrong : ChangeSpec := { name := "scanOn", fn := fun _ => fun
  | [d1, d2, d3] => { results := [.lit (.bool false)], args := [d1, d2, d3] }
  | _ => none }
def ScanOnWrongFalsely : Prop := scanOnRow.holds Try.pinned (OpenSpec.ofChange scanOnWrong)

/-- 'sheetpilelaw20.ScanBehind': WHATEVER THE INPUT: true; the input reads as it did. -/
def scanBehindSpec : ChangeSpec := { name := "scanBehind", fn := fun _ => fun
  | [d] => { results := [.lit (.bool true)], args := [d] }
  | _ => none }
def scanBehindRow : OpenClaim := { program := "ytcgbjkjacpeheaa", sum := "402cebd5a4c63feca3707d9635ec2e6c5e736fd6a8f71965d82ed9ce644733a4", func := "sheetpile/sheetpilelaw20.ScanBehind", spec := "scanBehind", inPlace := ["internal/abi.NoEscape"], unfollowed := true, recurses := true, apart := false }
def ScanBehindSaid : Prop := scanBehindRow.holds Try.pinned (OpenSpec.ofChange scanBehindSpec)

/-- ITS FALSE NEIGHBOUR: 'it returns false'. Refute it at one input. -/
def scanBehindWrong : ChangeSpec := { name := "scanBehind", fn := fun _ => fun
  | [d] => { results := [.lit (.bool false)], args := [d] }
  | _ => none }
def ScanBehindWrongFalsely : Prop := scanBehindRow.holds Try.pinned (OpenSpec.ofChange scanBehindWrong)

/- THE SECOND FORM. 'bulk': how many values and letters a reading holds, each counted each time it is reached (what is shared counts as often as it is met; a slice's spare places count too). A statement '..UptoSaid' is the law's where the arguments, and the package variables that the reading takes, are together of bulk at most 1048576: NARROWER than '..Said'. Prove '..Said' where nothing that the law and all that it calls make is longer than what came in: it says more and counts as full. Else prove '..UptoSaid'. A law counts once. -/
mutual
def uptoBulk {H : Type} : DataW H → Nat
  | .lit (.string bytes) => bytes.length + 1
  | .lit _ => 1
  | .nil => 1
  | .ptr d => uptoBulk d + 1
  | .slice elems spare => uptoBulkAll elems + uptoBulkAll spare + 1
  | .agg parts => uptoBulkAll parts + 1
  | .iface _ d => uptoBulk d + 1
  | .map entries => uptoBulkEntries entries + 1
  | .held _ => 1
def uptoBulkAll {H : Type} : List (DataW H) → Nat
  | [] => 0
  | d :: r => uptoBulk d + uptoBulkAll r
def uptoBulkEntries {H : Type} : List (Lit × DataW H) → Nat
  | [] => 0
  | x :: r => uptoBulkEntry x + uptoBulkEntries r
def uptoBulkEntry {H : Type} : Lit × DataW H → Nat
  | (.string bytes, d) => bytes.length + uptoBulk d + 1
  | (_, d) => uptoBulk d + 1
 end
def uptoSmall : (H : Type) → List (DataW H) → Bool := fun _ ds => decide (uptoBulkAll ds ≤ 1048576)
def OpenSpec.upto (s : _root_.Go.ChangeSpec) : _root_.Go.OpenSpec := { _root_.Go.OpenSpec.ofChange s with cond := some uptoSmall }

/-- 'sheetpilelaw19.FrameWrites', WHERE WHAT IT READS IS OF BULK AT MOST 1048576: true; the input reads as it did. -/
def frameWritesUptoRow : OpenClaim := { program := "ytcgbjkjacpeheaa", sum := "402cebd5a4c63feca3707d9635ec2e6c5e736fd6a8f71965d82ed9ce644733a4", func := "sheetpile/sheetpilelaw19.FrameWrites", spec := "frameWrites", inPlace := ["internal/abi.NoEscape"], unfollowed := true, recurses := true, apart := false, narrowed := true }
def FrameWritesUptoSaid : Prop := frameWritesUptoRow.holds Try.pinned (OpenSpec.upto frameWritesSpec)

/-- 'sheetpilelaw19.FrameReads', WHERE WHAT IT READS IS OF BULK AT MOST 1048576: true; the input reads as it did. -/
def frameReadsUptoRow : OpenClaim := { program := "ytcgbjkjacpeheaa", sum := "402cebd5a4c63feca3707d9635ec2e6c5e736fd6a8f71965d82ed9ce644733a4", func := "sheetpile/sheetpilelaw19.FrameReads", spec := "frameReads", inPlace := ["internal/abi.NoEscape"], unfollowed := true, recurses := true, apart := false, narrowed := true }
def FrameReadsUptoSaid : Prop := frameReadsUptoRow.holds Try.pinned (OpenSpec.upto frameReadsSpec)

/-- 'sheetpilelaw19.FrameBack', WHERE WHAT IT READS IS OF BULK AT MOST 1048576: true; the input reads as it did. -/
def frameBackUptoRow : OpenClaim := { program := "ytcgbjkjacpeheaa", sum := "402cebd5a4c63feca3707d9635ec2e6c5e736fd6a8f71965d82ed9ce644733a4", func := "sheetpile/sheetpilelaw19.FrameBack", spec := "frameBack", inPlace := ["internal/abi.NoEscape"], unfollowed := true, recurses := true, apart := false, narrowed := true }
def FrameBackUptoSaid : Prop := frameBackUptoRow.holds Try.pinned (OpenSpec.upto frameBackSpec)

/-- 'sheetpilelaw19.FrameSeen', WHERE WHAT IT READS IS OF BULK AT MOST 1048576: true; the input reads as it did. -/
def frameSeenUptoRow : OpenClaim := { program := "ytcgbjkjacpeheaa", sum := "402cebd5a4c63feca3707d9635ec2e6c5e736fd6a8f71965d82ed9ce644733a4", func := "sheetpile/sheetpilelaw19.FrameSeen", spec := "frameSeen", inPlace := ["internal/abi.NoEscape"], unfollowed := true, recurses := true, apart := false, narrowed := true }
def FrameSeenUptoSaid : Prop := frameSeenUptoRow.holds Try.pinned (OpenSpec.upto frameSeenSpec)

/-- 'sheetpilelaw19.FrameApart', WHERE WHAT IT READS IS OF BULK AT MOST 1048576: true; the input reads as it did. -/
def frameApartUptoRow : OpenClaim := { program := "ytcgbjkjacpeheaa", sum := "402cebd5a4c63feca3707d9635ec2e6c5e736fd6a8f71965d82ed9ce644733a4", func := "sheetpile/sheetpilelaw19.FrameApart", spec := "frameApart", inPlace := ["internal/abi.NoEscape"], unfollowed := true, recurses := true, apart := false, narrowed := true }
def FrameApartUptoSaid : Prop := frameApartUptoRow.holds Try.pinned (OpenSpec.upto frameApartSpec)

/-- 'sheetpilelaw19.FrameAgain', WHERE WHAT IT READS IS OF BULK AT MOST 1048576: true; the input reads as it did. -/
def frameAgainUptoRow : OpenClaim := { program := "ytcgbjkjacpeheaa", sum := "402cebd5a4c63feca3707d9635ec2e6c5e736fd6a8f71965d82ed9ce644733a4", func := "sheetpile/sheetpilelaw19.FrameAgain", spec := "frameAgain", inPlace := ["internal/abi.NoEscape"], unfollowed := true, recurses := true, apart := false, narrowed := true }
def FrameAgainUptoSaid : Prop := frameAgainUptoRow.holds Try.pinned (OpenSpec.upto frameAgainSpec)

/-- 'sheetpilelaw20.ScanTells', WHERE WHAT IT READS IS OF BULK AT MOST 1048576: true; the input reads as it did. -/
def scanTellsUptoRow : OpenClaim := { program := "ytcgbjkjacpeheaa", sum := "402cebd5a4c63feca3707d9635ec2e6c5e736fd6a8f71965d82ed9ce644733a4", func := "sheetpile/sheetpilelaw20.ScanTells", spec := "scanTells", inPlace := ["internal/abi.NoEscape"], unfollowed := true, recurses := true, apart := false, narrowed := true }
def ScanTellsUptoSaid : Prop := scanTellsUptoRow.holds Try.pinned (OpenSpec.upto scanTellsSpec)

/-- 'sheetpilelaw20.ScanWrites', WHERE WHAT IT READS IS OF BULK AT MOST 1048576: true; the input reads as it did. -/
def scanWritesUptoRow : OpenClaim := { program := "ytcgbjkjacpeheaa", sum := "402cebd5a4c63feca3707d9635ec2e6c5e736fd6a8f71965d82ed9ce644733a4", func := "sheetpile/sheetpilelaw20.ScanWrites", spec := "scanWrites", inPlace := ["internal/abi.NoEscape"], unfollowed := true, recurses := true, apart := false, narrowed := true }
def ScanWritesUptoSaid : Prop := scanWritesUptoRow.holds Try.pinned (OpenSpec.upto scanWritesSpec)

/-- 'sheetpilelaw20.ScanCut', WHERE WHAT IT READS IS OF BULK AT MOST 1048576: true; the input reads as it did. -/
def scanCutUptoRow : OpenClaim := { program := "ytcgbjkjacpeheaa", sum := "402cebd5a4c63feca3707d9635ec2e6c5e736fd6a8f71965d82ed9ce644733a4", func := "sheetpile/sheetpilelaw20.ScanCut", spec := "scanCut", inPlace := ["internal/abi.NoEscape"], unfollowed := true, recurses := true, apart := false, narrowed := true }
def ScanCutUptoSaid : Prop := scanCutUptoRow.holds Try.pinned (OpenSpec.upto scanCutSpec)

/-- 'sheetpilelaw20.ScanAgain', WHERE WHAT IT READS IS OF BULK AT MOST 1048576: true; the input reads as it did. -/
def scanAgainUptoRow : OpenClaim := { program := "ytcgbjkjacpeheaa", sum := "402cebd5a4c63feca3707d9635ec2e6c5e736fd6a8f71965d82ed9ce644733a4", func := "sheetpile/sheetpilelaw20.ScanAgain", spec := "scanAgain", inPlace := ["internal/abi.NoEscape"], unfollowed := true, recurses := true, apart := false, narrowed := true }
def ScanAgainUptoSaid : Prop := scanAgainUptoRow.holds Try.pinned (OpenSpec.upto scanAgainSpec)

/-- 'sheetpilelaw20.ScanOn', WHERE WHAT IT READS IS OF BULK AT MOST 1048576: true; the input reads as it did. -/
def scanOnUptoRow : OpenClaim := { program := "ytcgbjkjacpeheaa", sum := "402cebd5a4c63feca3707d9635ec2e6c5e736fd6a8f71965d82ed9ce644733a4", func := "sheetpile/sheetpilelaw20.ScanOn", spec := "scanOn", inPlace := ["internal/abi.NoEscape"], unfollowed := true, recurses := true, apart := false, narrowed := true }
def ScanOnUptoSaid : Prop := scanOnUptoRow.holds Try.pinned (OpenSpec.upto scanOnSpec)

/-- 'sheetpilelaw20.ScanBehind', WHERE WHAT IT READS IS OF BULK AT MOST 1048576: true; the input reads as it did. -/
def scanBehindUptoRow : OpenClaim := { program := "ytcgbjkjacpeheaa", sum := "402cebd5a4c63feca3707d9635ec2e6c5e736fd6a8f71965d82ed9ce644733a4", func := "sheetpile/sheetpilelaw20.ScanBehind", spec := "scanBehind", inPlace := ["internal/abi.NoEscape"], unfollowed := true, recurses := true, apart := false, narrowed := true }
def ScanBehindUptoSaid : Prop := scanBehindUptoRow.holds Try.pinned (OpenSpec.upto scanBehindSpec)

end Rows
end Go.Proofs.Ytcgbjkjacpeheaa
