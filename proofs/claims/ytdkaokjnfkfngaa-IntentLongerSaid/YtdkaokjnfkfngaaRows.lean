/-
  No cell of these rows narrows 'for every input' (looked for: loops, veiled, ifaces, maps, wideKeys, modest, calm, conditions, laid).
  DERIVED. THE GIVEN ROWS OF THIS SEAT. 12 by the template 'for every input the law returns true; each argument reads behind the call as it read before'; 0 by the template 'total and deterministic' (their statements: YtdkaokjnfkfngaaTotals.lean).
  GIVEN WITH THE SEED: the statements are not yours to turn. If you find one false, say at which input.
  Laid BY PROGRAM, IN A SANDBOX (cutbox-rows.mjs): the forced cells as the released guide's own fill.sh prints them over the translation 12c2071afdfed5ee… (all of the seat's roots in one cut). By AI agents, Wed Nov 11 2026. No macro, syntax, notation, axiom, sorry.
-/
import Derived.Test.YtdkaokjnfkfngaaChecked
import GoSem.Claim
import GoSem.ClaimJoined
import GoSem.ClaimMapViews
import Derived.JoinedTies
import Derived.KernelRfl
namespace Go.Proofs.Ytdkaokjnfkfngaa
/- THE CELL 'sum', in the pinned program and in every row, IS THE sha256 OF THE DUMP (.gsa) THAT YtdkaokjnfkfngaaProg.lean LOADS. Nothing in Lean hashes anything: it is a label: what it is worth is what the hold of that sum in a sandbox is worth. -/
noncomputable def Try.pinned : Pinned := { name := "ytdkaokjnfkfngaa", sum := "12c2071afdfed5ee9f8698658a972c5ed45adb25e8f823e752ac68dec430525d", checked := Try.checked }
namespace Rows
def none {H : Type} : Left H := { results := [], args := [] }

/-- 'sheetpilelaw08.KeyChecks': WHATEVER THE INPUT: true; the input reads as it did. -/
def keyChecksSpec : ChangeSpec := { name := "keyChecks", fn := fun _ => fun
  | [d] => { results := [.lit (.bool true)], args := [d] }
  | _ => none }
def keyChecksRow : OpenClaim := { program := "ytdkaokjnfkfngaa", sum := "12c2071afdfed5ee9f8698658a972c5ed45adb25e8f823e752ac68dec430525d", func := "sheetpile/sheetpilelaw08.KeyChecks", spec := "keyChecks", inPlace := ["internal/abi.NoEscape", "internal/bytealg.IndexByteString"], apart := false }
def KeyChecksSaid : Prop := keyChecksRow.holds Try.pinned (OpenSpec.ofChange keyChecksSpec)

/-- ITS FALSE NEIGHBOUR: 'it returns false'. Refute it at one input. -/
def keyChecksWrong : ChangeSpec := { name := "keyChecks", fn := fun _ => fun
  | [d] => { results := [.lit (.bool false)], args := [d] }
  | _ => none }
def KeyChecksWrongFalsely : Prop := keyChecksRow.holds Try.pinned (OpenSpec.ofChange keyChecksWrong)

/-- 'sheetpilelaw08.KeyQuotes': WHATEVER THE INPUT: true; the input reads as it did. -/
def keyQuotesSpec : ChangeSpec := { name := "keyQuotes", fn := fun _ => fun
  | [d] => { results := [.lit (.bool true)], args := [d] }
  | _ => none }
def keyQuotesRow : OpenClaim := { program := "ytdkaokjnfkfngaa", sum := "12c2071afdfed5ee9f8698658a972c5ed45adb25e8f823e752ac68dec430525d", func := "sheetpile/sheetpilelaw08.KeyQuotes", spec := "keyQuotes", inPlace := ["internal/abi.NoEscape", "internal/bytealg.IndexByteString"], apart := false }
def KeyQuotesSaid : Prop := keyQuotesRow.holds Try.pinned (OpenSpec.ofChange keyQuotesSpec)

/-- ITS FALSE NEIGHBOUR: 'it returns false'. Refute it at one input. -/
def keyQuotesWrong : ChangeSpec := { name := "keyQuotes", fn := fun _ => fun
  | [d] => { results := [.lit (.bool false)], args := [d] }
  | _ => none }
def KeyQuotesWrongFalsely : Prop := keyQuotesRow.holds Try.pinned (OpenSpec.ofChange keyQuotesWrong)

/-- 'sheetpilelaw08.KeyBack': WHATEVER THE INPUT: true; the input reads as it did. -/
def keyBackSpec : ChangeSpec := { name := "keyBack", fn := fun _ => fun
  | [d] => { results := [.lit (.bool true)], args := [d] }
  | _ => none }
def keyBackRow : OpenClaim := { program := "ytdkaokjnfkfngaa", sum := "12c2071afdfed5ee9f8698658a972c5ed45adb25e8f823e752ac68dec430525d", func := "sheetpile/sheetpilelaw08.KeyBack", spec := "keyBack", inPlace := ["internal/abi.NoEscape", "internal/bytealg.IndexByteString"], apart := false }
def KeyBackSaid : Prop := keyBackRow.holds Try.pinned (OpenSpec.ofChange keyBackSpec)

/-- ITS FALSE NEIGHBOUR: 'it returns false'. Refute it at one input. -/
def keyBackWrong : ChangeSpec := { name := "keyBack", fn := fun _ => fun
  | [d] => { results := [.lit (.bool false)], args := [d] }
  | _ => none }
def KeyBackWrongFalsely : Prop := keyBackRow.holds Try.pinned (OpenSpec.ofChange keyBackWrong)

/-- 'sheetpilelaw08.KeyJoins': WHATEVER THE INPUT: true; the input reads as it did. -/
def keyJoinsSpec : ChangeSpec := { name := "keyJoins", fn := fun _ => fun
  | [d1, d2] => { results := [.lit (.bool true)], args := [d1, d2] }
  | _ => none }
def keyJoinsRow : OpenClaim := { program := "ytdkaokjnfkfngaa", sum := "12c2071afdfed5ee9f8698658a972c5ed45adb25e8f823e752ac68dec430525d", func := "sheetpile/sheetpilelaw08.KeyJoins", spec := "keyJoins", inPlace := ["internal/abi.NoEscape", "internal/bytealg.IndexByteString"], apart := false }
def KeyJoinsSaid : Prop := keyJoinsRow.holds Try.pinned (OpenSpec.ofChange keyJoinsSpec)

/-- ITS FALSE NEIGHBOUR: 'it returns false'. Refute it at one input. -/
def keyJoinsWrong : ChangeSpec := { name := "keyJoins", fn := fun _ => fun
  | [d1, d2] => { results := [.lit (.bool false)], args := [d1, d2] }
  | _ => none }
def KeyJoinsWrongFalsely : Prop := keyJoinsRow.holds Try.pinned (OpenSpec.ofChange keyJoinsWrong)

/-- 'sheetpilelaw08.KeyApart': WHATEVER THE INPUT: true; the input reads as it did. -/
def keyApartSpec : ChangeSpec := { name := "keyApart", fn := fun _ => fun
  | [d1, d2] => { results := [.lit (.bool true)], args := [d1, d2] }
  | _ => none }
def keyApartRow : OpenClaim := { program := "ytdkaokjnfkfngaa", sum := "12c2071afdfed5ee9f8698658a972c5ed45adb25e8f823e752ac68dec430525d", func := "sheetpile/sheetpilelaw08.KeyApart", spec := "keyApart", inPlace := ["internal/abi.NoEscape", "internal/bytealg.IndexByteString"], apart := false }
def KeyApartSaid : Prop := keyApartRow.holds Try.pinned (OpenSpec.ofChange keyApartSpec)

/-- ITS FALSE NEIGHBOUR: 'it returns false'. Refute it at one input. -/
def keyApartWrong : ChangeSpec := { name := "keyApart", fn := fun _ => fun
  | [d1, d2] => { results := [.lit (.bool false)], args := [d1, d2] }
  | _ => none }
def KeyApartWrongFalsely : Prop := keyApartRow.holds Try.pinned (OpenSpec.ofChange keyApartWrong)

/-- 'sheetpilelaw08.KeyParts': WHATEVER THE INPUT: true; the input reads as it did. -/
def keyPartsSpec : ChangeSpec := { name := "keyParts", fn := fun _ => fun
  | [d1, d2] => { results := [.lit (.bool true)], args := [d1, d2] }
  | _ => none }
def keyPartsRow : OpenClaim := { program := "ytdkaokjnfkfngaa", sum := "12c2071afdfed5ee9f8698658a972c5ed45adb25e8f823e752ac68dec430525d", func := "sheetpile/sheetpilelaw08.KeyParts", spec := "keyParts", inPlace := ["internal/abi.NoEscape", "internal/bytealg.IndexByteString"], apart := false }
def KeyPartsSaid : Prop := keyPartsRow.holds Try.pinned (OpenSpec.ofChange keyPartsSpec)

/-- ITS FALSE NEIGHBOUR: 'it returns false'. Refute it at one input. -/
def keyPartsWrong : ChangeSpec := { name := "keyParts", fn := fun _ => fun
  | [d1, d2] => { results := [.lit (.bool false)], args := [d1, d2] }
  | _ => none }
def KeyPartsWrongFalsely : Prop := keyPartsRow.holds Try.pinned (OpenSpec.ofChange keyPartsWrong)

/-- 'sheetpilelaw14.IntentTells': WHATEVER THE INPUT: true; the input reads as it did. -/
def intentTellsSpec : ChangeSpec := { name := "intentTells", fn := fun _ => fun
  | [d1, d2] => { results := [.lit (.bool true)], args := [d1, d2] }
  | _ => none }
def intentTellsRow : OpenClaim := { program := "ytdkaokjnfkfngaa", sum := "12c2071afdfed5ee9f8698658a972c5ed45adb25e8f823e752ac68dec430525d", func := "sheetpile/sheetpilelaw14.IntentTells", spec := "intentTells", inPlace := ["internal/abi.NoEscape", "internal/bytealg.MakeNoZero"], unfollowed := true, recurses := true, apart := false }
def IntentTellsSaid : Prop := intentTellsRow.holds Try.pinned (OpenSpec.ofChange intentTellsSpec)

/-- ITS FALSE NEIGHBOUR: 'it returns false'. Refute it at one input. -/
def intentTellsWrong : ChangeSpec := { name := "intentTells", fn := fun _ => fun
  | [d1, d2] => { results := [.lit (.bool false)], args := [d1, d2] }
  | _ => none }
def IntentTellsWrongFalsely : Prop := intentTellsRow.holds Try.pinned (OpenSpec.ofChange intentTellsWrong)

/-- 'sheetpilelaw14.IntentBack': WHATEVER THE INPUT: true; the input reads as it did. -/
def intentBackSpec : ChangeSpec := { name := "intentBack", fn := fun _ => fun
  | [d1, d2] => { results := [.lit (.bool true)], args := [d1, d2] }
  | _ => none }
def intentBackRow : OpenClaim := { program := "ytdkaokjnfkfngaa", sum := "12c2071afdfed5ee9f8698658a972c5ed45adb25e8f823e752ac68dec430525d", func := "sheetpile/sheetpilelaw14.IntentBack", spec := "intentBack", inPlace := ["internal/abi.NoEscape", "internal/bytealg.MakeNoZero"], unfollowed := true, recurses := true, apart := false }
def IntentBackSaid : Prop := intentBackRow.holds Try.pinned (OpenSpec.ofChange intentBackSpec)

/-- ITS FALSE NEIGHBOUR: 'it returns false'. Refute it at one input. -/
def intentBackWrong : ChangeSpec := { name := "intentBack", fn := fun _ => fun
  | [d1, d2] => { results := [.lit (.bool false)], args := [d1, d2] }
  | _ => none }
def IntentBackWrongFalsely : Prop := intentBackRow.holds Try.pinned (OpenSpec.ofChange intentBackWrong)

/-- 'sheetpilelaw14.IntentApart': WHATEVER THE INPUT: true; the input reads as it did. -/
def intentApartSpec : ChangeSpec := { name := "intentApart", fn := fun _ => fun
  | [d1, d2] => { results := [.lit (.bool true)], args := [d1, d2] }
  | _ => none }
def intentApartRow : OpenClaim := { program := "ytdkaokjnfkfngaa", sum := "12c2071afdfed5ee9f8698658a972c5ed45adb25e8f823e752ac68dec430525d", func := "sheetpile/sheetpilelaw14.IntentApart", spec := "intentApart", inPlace := ["internal/abi.NoEscape", "internal/bytealg.MakeNoZero"], unfollowed := true, recurses := true, apart := false }
def IntentApartSaid : Prop := intentApartRow.holds Try.pinned (OpenSpec.ofChange intentApartSpec)

/-- ITS FALSE NEIGHBOUR: 'it returns false'. Refute it at one input. -/
def intentApartWrong : ChangeSpec := { name := "intentApart", fn := fun _ => fun
  | [d1, d2] => { results := [.lit (.bool false)], args := [d1, d2] }
  | _ => none }
def IntentApartWrongFalsely : Prop := intentApartRow.holds Try.pinned (OpenSpec.ofChange intentApartWrong)

/-- 'sheetpilelaw14.IntentGoes': WHATEVER THE INPUT: true; the input reads as it did. -/
def intentGoesSpec : ChangeSpec := { name := "intentGoes", fn := fun _ => fun
  | [d] => { results := [.lit (.bool true)], args := [d] }
  | _ => none }
def intentGoesRow : OpenClaim := { program := "ytdkaokjnfkfngaa", sum := "12c2071afdfed5ee9f8698658a972c5ed45adb25e8f823e752ac68dec430525d", func := "sheetpile/sheetpilelaw14.IntentGoes", spec := "intentGoes", inPlace := ["internal/abi.NoEscape", "internal/bytealg.MakeNoZero"], unfollowed := true, recurses := true, apart := false }
def IntentGoesSaid : Prop := intentGoesRow.holds Try.pinned (OpenSpec.ofChange intentGoesSpec)

/-- ITS FALSE NEIGHBOUR: 'it returns false'. Refute it at one input. -/
def intentGoesWrong : ChangeSpec := { name := "intentGoes", fn := fun _ => fun
  | [d] => { results := [.lit (.bool false)], args := [d] }
  | _ => none }
def IntentGoesWrongFalsely : Prop := intentGoesRow.holds Try.pinned (OpenSpec.ofChange intentGoesWrong)

/-- 'sheetpilelaw14.IntentCut': WHATEVER THE INPUT: true; the input reads as it did. -/
def intentCutSpec : ChangeSpec := { name := "intentCut", fn := fun _ => fun
  | [d1, d2] => { results := [.lit (.bool true)], args := [d1, d2] }
  | _ => none }
def intentCutRow : OpenClaim := { program := "ytdkaokjnfkfngaa", sum := "12c2071afdfed5ee9f8698658a972c5ed45adb25e8f823e752ac68dec430525d", func := "sheetpile/sheetpilelaw14.IntentCut", spec := "intentCut", inPlace := ["internal/abi.NoEscape", "internal/bytealg.MakeNoZero"], unfollowed := true, recurses := true, apart := false }
def IntentCutSaid : Prop := intentCutRow.holds Try.pinned (OpenSpec.ofChange intentCutSpec)

/-- ITS FALSE NEIGHBOUR: 'it returns false'. Refute it at one input. -/
def intentCutWrong : ChangeSpec := { name := "intentCut", fn := fun _ => fun
  | [d1, d2] => { results := [.lit (.bool false)], args := [d1, d2] }
  | _ => none }
def IntentCutWrongFalsely : Prop := intentCutRow.holds Try.pinned (OpenSpec.ofChange intentCutWrong)

/-- 'sheetpilelaw14.IntentLonger': WHATEVER THE INPUT: true; the input reads as it did. -/
def intentLongerSpec : ChangeSpec := { name := "intentLonger", fn := fun _ => fun
  | [d1, d2] => { results := [.lit (.bool true)], args := [d1, d2] }
  | _ => none }
def intentLongerRow : OpenClaim := { program := "ytdkaokjnfkfngaa", sum := "12c2071afdfed5ee9f8698658a972c5ed45adb25e8f823e752ac68dec430525d", func := "sheetpile/sheetpilelaw14.IntentLonger", spec := "intentLonger", inPlace := ["internal/abi.NoEscape", "internal/bytealg.MakeNoZero"], unfollowed := true, recurses := true, apart := false }
def IntentLongerSaid : Prop := intentLongerRow.holds Try.pinned (OpenSpec.ofChange intentLongerSpec)

/-- ITS FALSE NEIGHBOUR: 'it returns false'. Refute it at one input. -/
def intentLongerWrong : ChangeSpec := { name := "intentLonger", fn := fun _ => fun
  | [d1, d2] => { results := [.lit (.bool false)], args := [d1, d2] }
  | _ => none }
def IntentLongerWrongFalsely : Prop := intentLongerRow.holds Try.pinned (OpenSpec.ofChange intentLongerWrong)

/- THE SECOND FORM. 'bulk': how many values and letters a reading holds, each counted each time it is reached (what is shared counts as often as it is met; a slice's spare places count too). A statement '..UptoSaid' is the law's where the arguments, and the package variables that the reading takes, are together of bulk at most 1048576: NARROWER than '..Said'. Prove '..Said' where nothing that the law and all that it calls make is longer than what came in: it says more and counts as full. Else prove '..UptoSaid'. A law counts once. -/
mutual
def uptoBulk {H : Type} : DataW H → Nat
  | .lit (.string bytes) => bytes.length + 1
  | .lit _ => 1
  | .nil => 1
  | .ptr d => uptoBulk d + 1
  | .slice elems spare => uptoBulkAll elems + uptoBulkAll spare + 1
  | .agg parts => uptoBulkAll parts + 1
  | .iface _ d => uptoBulk d + 1
  | .map entries => uptoBulkEntries entries + 1
  | .held _ => 1
def uptoBulkAll {H : Type} : List (DataW H) → Nat
  | [] => 0
  | d :: r => uptoBulk d + uptoBulkAll r
def uptoBulkEntries {H : Type} : List (Lit × DataW H) → Nat
  | [] => 0
  | x :: r => uptoBulkEntry x + uptoBulkEntries r
def uptoBulkEntry {H : Type} : Lit × DataW H → Nat
  | (.string bytes, d) => bytes.length + uptoBulk d + 1
  | (_, d) => uptoBulk d + 1
 end
def uptoSmall : (H : Type) → List (DataW H) → Bool := fun _ ds => decide (uptoBulkAll ds ≤ 1048576)
def OpenSpec.upto (s : _root_.Go.ChangeSpec) : _root_.Go.OpenSpec := { _root_.Go.OpenSpec.ofChange s with cond := some uptoSmall }

/-- 'sheetpilelaw08.KeyChecks', WHERE WHAT IT READS IS OF BULK AT MOST 1048576: true; the input reads as it did. -/
def keyChecksUptoRow : OpenClaim := { program := "ytdkaokjnfkfngaa", sum := "12c2071afdfed5ee9f8698658a972c5ed45adb25e8f823e752ac68dec430525d", func := "sheetpile/sheetpilelaw08.KeyChecks", spec := "keyChecks", inPlace := ["internal/abi.NoEscape", "internal/bytealg.IndexByteString"], apart := false, narrowed := true }
def KeyChecksUptoSaid : Prop := keyChecksUptoRow.holds Try.pinned (OpenSpec.upto keyChecksSpec)

/-- 'sheetpilelaw08.KeyQuotes', WHERE WHAT IT READS IS OF BULK AT MOST 1048576: true; the input reads as it did. -/
def keyQuotesUptoRow : OpenClaim := { program := "ytdkaokjnfkfngaa", sum := "12c2071afdfed5ee9f8698658a972c5ed45adb25e8f823e752ac68dec430525d", func := "sheetpile/sheetpilelaw08.KeyQuotes", spec := "keyQuotes", inPlace := ["internal/abi.NoEscape", "internal/bytealg.IndexByteString"], apart := false, narrowed := true }
def KeyQuotesUptoSaid : Prop := keyQuotesUptoRow.holds Try.pinned (OpenSpec.upto keyQuotesSpec)

/-- 'sheetpilelaw08.KeyBack', WHERE WHAT IT READS IS OF BULK AT MOST 1048576: true; the input reads as it did. -/
def keyBackUptoRow : OpenClaim := { program := "ytdkaokjnfkfngaa", sum := "12c2071afdfed5ee9f8698658a972c5ed45adb25e8f823e752ac68dec430525d", func := "sheetpile/sheetpilelaw08.KeyBack", spec := "keyBack", inPlace := ["internal/abi.NoEscape", "internal/bytealg.IndexByteString"], apart := false, narrowed := true }
def KeyBackUptoSaid : Prop := keyBackUptoRow.holds Try.pinned (OpenSpec.upto keyBackSpec)

/-- 'sheetpilelaw08.KeyJoins', WHERE WHAT IT READS IS OF BULK AT MOST 1048576: true; the input reads as it did. -/
def keyJoinsUptoRow : OpenClaim := { program := "ytdkaokjnfkfngaa", sum := "12c2071afdfed5ee9f8698658a972c5ed45adb25e8f823e752ac68dec430525d", func := "sheetpile/sheetpilelaw08.KeyJoins", spec := "keyJoins", inPlace := ["internal/abi.NoEscape", "internal/bytealg.IndexByteString"], apart := false, narrowed := true }
def KeyJoinsUptoSaid : Prop := keyJoinsUptoRow.holds Try.pinned (OpenSpec.upto keyJoinsSpec)

/-- 'sheetpilelaw08.KeyApart', WHERE WHAT IT READS IS OF BULK AT MOST 1048576: true; the input reads as it did. -/
def keyApartUptoRow : OpenClaim := { program := "ytdkaokjnfkfngaa", sum := "12c2071afdfed5ee9f8698658a972c5ed45adb25e8f823e752ac68dec430525d", func := "sheetpile/sheetpilelaw08.KeyApart", spec := "keyApart", inPlace := ["internal/abi.NoEscape", "internal/bytealg.IndexByteString"], apart := false, narrowed := true }
def KeyApartUptoSaid : Prop := keyApartUptoRow.holds Try.pinned (OpenSpec.upto keyApartSpec)

/-- 'sheetpilelaw08.KeyParts', WHERE WHAT IT READS IS OF BULK AT MOST 1048576: true; the input reads as it did. -/
def keyPartsUptoRow : OpenClaim := { program := "ytdkaokjnfkfngaa", sum := "12c2071afdfed5ee9f8698658a972c5ed45adb25e8f823e752ac68dec430525d", func := "sheetpile/sheetpilelaw08.KeyParts", spec := "keyParts", inPlace := ["internal/abi.NoEscape", "internal/bytealg.IndexByteString"], apart := false, narrowed := true }
def KeyPartsUptoSaid : Prop := keyPartsUptoRow.holds Try.pinned (OpenSpec.upto keyPartsSpec)

/-- 'sheetpilelaw14.IntentTells', WHERE WHAT IT READS IS OF BULK AT MOST 1048576: true; the input reads as it did. -/
def intentTellsUptoRow : OpenClaim := { program := "ytdkaokjnfkfngaa", sum := "12c2071afdfed5ee9f8698658a972c5ed45adb25e8f823e752ac68dec430525d", func := "sheetpile/sheetpilelaw14.IntentTells", spec := "intentTells", inPlace := ["internal/abi.NoEscape", "internal/bytealg.MakeNoZero"], unfollowed := true, recurses := true, apart := false, narrowed := true }
def IntentTellsUptoSaid : Prop := intentTellsUptoRow.holds Try.pinned (OpenSpec.upto intentTellsSpec)

/-- 'sheetpilelaw14.IntentBack', WHERE WHAT IT READS IS OF BULK AT MOST 1048576: true; the input reads as it did. -/
def intentBackUptoRow : OpenClaim := { program := "ytdkaokjnfkfngaa", sum := "12c2071afdfed5ee9f8698658a972c5ed45adb25e8f823e752ac68dec430525d", func := "sheetpile/sheetpilelaw14.IntentBack", spec := "intentBack", inPlace := ["internal/abi.NoEscape", "internal/bytealg.MakeNoZero"], unfollowed := true, recurses := true, apart := false, narrowed := true }
def IntentBackUptoSaid : Prop := intentBackUptoRow.holds Try.pinned (OpenSpec.upto intentBackSpec)

/-- 'sheetpilelaw14.IntentApart', WHERE WHAT IT READS IS OF BULK AT MOST 1048576: true; the input reads as it did. -/
def intentApartUptoRow : OpenClaim := { program := "ytdkaokjnfkfngaa", sum := "12c2071afdfed5ee9f8698658a972c5ed45adb25e8f823e752ac68dec430525d", func := "sheetpile/sheetpilelaw14.IntentApart", spec := "intentApart", inPlace := ["internal/abi.NoEscape", "internal/bytealg.MakeNoZero"], unfollowed := true, recurses := true, apart := false, narrowed := true }
def IntentApartUptoSaid : Prop := intentApartUptoRow.holds Try.pinned (OpenSpec.upto intentApartSpec)

/-- 'sheetpilelaw14.IntentGoes', WHERE WHAT IT READS IS OF BULK AT MOST 1048576: true; the input reads as it did. -/
def intentGoesUptoRow : OpenClaim := { program := "ytdkaokjnfkfngaa", sum := "12c2071afdfed5ee9f8698658a972c5ed45adb25e8f823e752ac68dec430525d", func := "sheetpile/sheetpilelaw14.IntentGoes", spec := "intentGoes", inPlace := ["internal/abi.NoEscape", "internal/bytealg.MakeNoZero"], unfollowed := true, recurses := true, apart := false, narrowed := true }
def IntentGoesUptoSaid : Prop := intentGoesUptoRow.holds Try.pinned (OpenSpec.upto intentGoesSpec)

/-- 'sheetpilelaw14.IntentCut', WHERE WHAT IT READS IS OF BULK AT MOST 1048576: true; the input reads as it did. -/
def intentCutUptoRow : OpenClaim := { program := "ytdkaokjnfkfngaa", sum := "12c2071afdfed5ee9f8698658a972c5ed45adb25e8f823e752ac68dec430525d", func := "sheetpile/sheetpilelaw14.IntentCut", spec := "intentCut", inPlace := ["internal/abi.NoEscape", "internal/bytealg.MakeNoZero"], unfollowed := true, recurses := true, apart := false, narrowed := true }
def IntentCutUptoSaid : Prop := intentCutUptoRow.holds Try.pinned (OpenSpec.upto intentCutSpec)

/-- 'sheetpilelaw14.IntentLonger', WHERE WHAT IT READS IS OF BULK AT MOST 1048576: true; the input reads as it did. -/
def intentLongerUptoRow : OpenClaim := { program := "ytdkaokjnfkfngaa", sum := "12c2071afdfed5ee9f8698658a972c5ed45adb25e8f823e752ac68dec430525d", func := "sheetpile/sheetpilelaw14.IntentLonger", spec := "intentLonger", inPlace := ["internal/abi.NoEscape", "internal/bytealg.MakeNoZero"], unfollowed := true, recurses := true, apart := false, narrowed := true }
def IntentLongerUptoSaid : Prop := intentLongerUptoRow.holds Try.pinned (OpenSpec.upto intentLongerSpec)

end Rows
end Go.Proofs.Ytdkaokjnfkfngaa
