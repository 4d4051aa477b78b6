/-
  No cell of these rows narrows 'for every input' (looked for: loops, veiled, ifaces, maps, wideKeys, modest, calm, conditions, laid).
  DERIVED. THE GIVEN ROWS OF THIS SEAT. 12 by the template 'for every input the law returns true; each argument reads behind the call as it read before'; 0 by the template 'total and deterministic' (their statements: YtkafepjecpfoeaaTotals.lean).
  GIVEN WITH THE SEED: the statements are not yours to turn. If you find one false, say at which input.
  Laid BY PROGRAM, IN A SANDBOX (cutbox-rows.mjs): the forced cells as the released guide's own fill.sh prints them over the translation 093a2509b1423031… (all of the seat's roots in one cut). By AI agents, Wed Nov 11 2026. No macro, syntax, notation, axiom, sorry.
-/
import Derived.Test.YtkafepjecpfoeaaChecked
import GoSem.Claim
import GoSem.ClaimJoined
import GoSem.ClaimMapViews
import Derived.JoinedTies
import Derived.KernelRfl
namespace Go.Proofs.Ytkafepjecpfoeaa
/- THE CELL 'sum', in the pinned program and in every row, IS THE sha256 OF THE DUMP (.gsa) THAT YtkafepjecpfoeaaProg.lean LOADS. Nothing in Lean hashes anything: it is a label: what it is worth is what the hold of that sum in a sandbox is worth. -/
noncomputable def Try.pinned : Pinned := { name := "ytkafepjecpfoeaa", sum := "093a2509b1423031cde0fce9197a17877d9656324005ea017e81a5c9399dfcfc", checked := Try.checked }
namespace Rows
def none {H : Type} : Left H := { results := [], args := [] }

/-- 'sheetpilelaw06.CrcSums': WHATEVER THE INPUT: true; the input reads as it did. -/
def crcSumsSpec : ChangeSpec := { name := "crcSums", fn := fun _ => fun
  | [d1, d2] => { results := [.lit (.bool true)], args := [d1, d2] }
  | _ => none }
def crcSumsRow : OpenClaim := { program := "ytkafepjecpfoeaa", sum := "093a2509b1423031cde0fce9197a17877d9656324005ea017e81a5c9399dfcfc", func := "sheetpile/sheetpilelaw06.CrcSums", spec := "crcSums", apart := false }
def CrcSumsSaid : Prop := crcSumsRow.holds Try.pinned (OpenSpec.ofChange crcSumsSpec)

/-- ITS FALSE NEIGHBOUR: 'it returns false'. Refute it at one input. -/
def crcSumsWrong : ChangeSpec := { name := "crcSums", fn := fun _ => fun
  | [d1, d2] => { results := [.lit (.bool false)], args := [d1, d2] }
  | _ => none }
def CrcSumsWrongFalsely : Prop := crcSumsRow.holds Try.pinned (OpenSpec.ofChange crcSumsWrong)

/-- 'sheetpilelaw06.CrcOn': WHATEVER THE INPUT: true; the input reads as it did. -/
def crcOnSpec : ChangeSpec := { name := "crcOn", fn := fun _ => fun
  | [d1, d2] => { results := [.lit (.bool true)], args := [d1, d2] }
  | _ => none }
def crcOnRow : OpenClaim := { program := "ytkafepjecpfoeaa", sum := "093a2509b1423031cde0fce9197a17877d9656324005ea017e81a5c9399dfcfc", func := "sheetpile/sheetpilelaw06.CrcOn", spec := "crcOn", apart := false }
def CrcOnSaid : Prop := crcOnRow.holds Try.pinned (OpenSpec.ofChange crcOnSpec)

/-- ITS FALSE NEIGHBOUR: 'it returns false'. Refute it at one input. -/
def crcOnWrong : ChangeSpec := { name := "crcOn", fn := fun _ => fun
  | [d1, d2] => { results := [.lit (.bool false)], args := [d1, d2] }
  | _ => none }
def CrcOnWrongFalsely : Prop := crcOnRow.holds Try.pinned (OpenSpec.ofChange crcOnWrong)

/-- 'sheetpilelaw06.CrcSeen': WHATEVER THE INPUT: true; the input reads as it did. -/
def crcSeenSpec : ChangeSpec := { name := "crcSeen", fn := fun _ => fun
  | [d1, d2, d3] => { results := [.lit (.bool true)], args := [d1, d2, d3] }
  | _ => none }
def crcSeenRow : OpenClaim := { program := "ytkafepjecpfoeaa", sum := "093a2509b1423031cde0fce9197a17877d9656324005ea017e81a5c9399dfcfc", func := "sheetpile/sheetpilelaw06.CrcSeen", spec := "crcSeen", apart := false }
def CrcSeenSaid : Prop := crcSeenRow.holds Try.pinned (OpenSpec.ofChange crcSeenSpec)

/-- ITS FALSE NEIGHBOUR: 'it returns false'. Refute it at one input. -/
def crcSeenWrong : ChangeSpec := { name := "crcSeen", fn := fun _ => fun
  | [d1, d2, d3] => { results := [.lit (.bool false)], args := [d1, d2, d3] }
  | _ => none }
def CrcSeenWrongFalsely : Prop := crcSeenRow.holds Try.pinned (OpenSpec.ofChange crcSeenWrong)

/-- 'sheetpilelaw06.CrcParts': WHATEVER THE INPUT: true; the input reads as it did. -/
def crcPartsSpec : ChangeSpec := { name := "crcParts", fn := fun _ => fun
  | [d] => { results := [.lit (.bool true)], args := [d] }
  | _ => none }
def crcPartsRow : OpenClaim := { program := "ytkafepjecpfoeaa", sum := "093a2509b1423031cde0fce9197a17877d9656324005ea017e81a5c9399dfcfc", func := "sheetpile/sheetpilelaw06.CrcParts", spec := "crcParts", apart := false }
def CrcPartsSaid : Prop := crcPartsRow.holds Try.pinned (OpenSpec.ofChange crcPartsSpec)

/-- ITS FALSE NEIGHBOUR: 'it returns false'. Refute it at one input. -/
def crcPartsWrong : ChangeSpec := { name := "crcParts", fn := fun _ => fun
  | [d] => { results := [.lit (.bool false)], args := [d] }
  | _ => none }
def CrcPartsWrongFalsely : Prop := crcPartsRow.holds Try.pinned (OpenSpec.ofChange crcPartsWrong)

/-- 'sheetpilelaw06.CrcApart': WHATEVER THE INPUT: true; the input reads as it did. -/
def crcApartSpec : ChangeSpec := { name := "crcApart", fn := fun _ => fun
  | [d1, d2, d3] => { results := [.lit (.bool true)], args := [d1, d2, d3] }
  | _ => none }
def crcApartRow : OpenClaim := { program := "ytkafepjecpfoeaa", sum := "093a2509b1423031cde0fce9197a17877d9656324005ea017e81a5c9399dfcfc", func := "sheetpile/sheetpilelaw06.CrcApart", spec := "crcApart", apart := false }
def CrcApartSaid : Prop := crcApartRow.holds Try.pinned (OpenSpec.ofChange crcApartSpec)

/-- ITS FALSE NEIGHBOUR: 'it returns false'. Refute it at one input. -/
def crcApartWrong : ChangeSpec := { name := "crcApart", fn := fun _ => fun
  | [d1, d2, d3] => { results := [.lit (.bool false)], args := [d1, d2, d3] }
  | _ => none }
def CrcApartWrongFalsely : Prop := crcApartRow.holds Try.pinned (OpenSpec.ofChange crcApartWrong)

/-- 'sheetpilelaw06.CrcEven': WHATEVER THE INPUT: true; the input reads as it did. -/
def crcEvenSpec : ChangeSpec := { name := "crcEven", fn := fun _ => fun
  | [d1, d2, d3] => { results := [.lit (.bool true)], args := [d1, d2, d3] }
  | _ => none }
def crcEvenRow : OpenClaim := { program := "ytkafepjecpfoeaa", sum := "093a2509b1423031cde0fce9197a17877d9656324005ea017e81a5c9399dfcfc", func := "sheetpile/sheetpilelaw06.CrcEven", spec := "crcEven", apart := false }
def CrcEvenSaid : Prop := crcEvenRow.holds Try.pinned (OpenSpec.ofChange crcEvenSpec)

/-- ITS FALSE NEIGHBOUR: 'it returns false'. Refute it at one input. -/
def crcEvenWrong : ChangeSpec := { name := "crcEven", fn := fun _ => fun
  | [d1, d2, d3] => { results := [.lit (.bool false)], args := [d1, d2, d3] }
  | _ => none }
def CrcEvenWrongFalsely : Prop := crcEvenRow.holds Try.pinned (OpenSpec.ofChange crcEvenWrong)

/-- 'sheetpilelaw07.WireNumbers': WHATEVER THE INPUT: true; the input reads as it did. -/
def wireNumbersSpec : ChangeSpec := { name := "wireNumbers", fn := fun _ => fun
  | [d1, d2, d3] => { results := [.lit (.bool true)], args := [d1, d2, d3] }
  | _ => none }
def wireNumbersRow : OpenClaim := { program := "ytkafepjecpfoeaa", sum := "093a2509b1423031cde0fce9197a17877d9656324005ea017e81a5c9399dfcfc", func := "sheetpile/sheetpilelaw07.WireNumbers", spec := "wireNumbers", unfollowed := true, recurses := true, apart := false }
def WireNumbersSaid : Prop := wireNumbersRow.holds Try.pinned (OpenSpec.ofChange wireNumbersSpec)

/-- ITS FALSE NEIGHBOUR: 'it returns false'. Refute it at one input. -/
def wireNumbersWrong : ChangeSpec := { name := "wireNumbers", fn := fun _ => fun
  | [d1, d2, d3] => { results := [.lit (.bool false)], args := [d1, d2, d3] }
  | _ => none }
def WireNumbersWrongFalsely : Prop := wireNumbersRow.holds Try.pinned (OpenSpec.ofChange wireNumbersWrong)

/-- 'sheetpilelaw07.WireTexts': WHATEVER THE INPUT: true; the input reads as it did. -/
def wireTextsSpec : ChangeSpec := { name := "wireTexts", fn := fun _ => fun
  | [d1, d2] => { results := [.lit (.bool true)], args := [d1, d2] }
  | _ => none }
def wireTextsRow : OpenClaim := { program := "ytkafepjecpfoeaa", sum := "093a2509b1423031cde0fce9197a17877d9656324005ea017e81a5c9399dfcfc", func := "sheetpile/sheetpilelaw07.WireTexts", spec := "wireTexts", unfollowed := true, recurses := true, apart := false }
def WireTextsSaid : Prop := wireTextsRow.holds Try.pinned (OpenSpec.ofChange wireTextsSpec)

/-- ITS FALSE NEIGHBOUR: 'it returns false'. Refute it at one input. -/
def wireTextsWrong : ChangeSpec := { name := "wireTexts", fn := fun _ => fun
  | [d1, d2] => { results := [.lit (.bool false)], args := [d1, d2] }
  | _ => none }
def WireTextsWrongFalsely : Prop := wireTextsRow.holds Try.pinned (OpenSpec.ofChange wireTextsWrong)

/-- 'sheetpilelaw07.WireBack': WHATEVER THE INPUT: true; the input reads as it did. -/
def wireBackSpec : ChangeSpec := { name := "wireBack", fn := fun _ => fun
  | [d] => { results := [.lit (.bool true)], args := [d] }
  | _ => none }
def wireBackRow : OpenClaim := { program := "ytkafepjecpfoeaa", sum := "093a2509b1423031cde0fce9197a17877d9656324005ea017e81a5c9399dfcfc", func := "sheetpile/sheetpilelaw07.WireBack", spec := "wireBack", unfollowed := true, recurses := true, apart := false }
def WireBackSaid : Prop := wireBackRow.holds Try.pinned (OpenSpec.ofChange wireBackSpec)

/-- ITS FALSE NEIGHBOUR: 'it returns false'. Refute it at one input. -/
def wireBackWrong : ChangeSpec := { name := "wireBack", fn := fun _ => fun
  | [d] => { results := [.lit (.bool false)], args := [d] }
  | _ => none }
def WireBackWrongFalsely : Prop := wireBackRow.holds Try.pinned (OpenSpec.ofChange wireBackWrong)

/-- 'sheetpilelaw07.WireAgain': WHATEVER THE INPUT: true; the input reads as it did. -/
def wireAgainSpec : ChangeSpec := { name := "wireAgain", fn := fun _ => fun
  | [d1, d2] => { results := [.lit (.bool true)], args := [d1, d2] }
  | _ => none }
def wireAgainRow : OpenClaim := { program := "ytkafepjecpfoeaa", sum := "093a2509b1423031cde0fce9197a17877d9656324005ea017e81a5c9399dfcfc", func := "sheetpile/sheetpilelaw07.WireAgain", spec := "wireAgain", unfollowed := true, recurses := true, apart := false }
def WireAgainSaid : Prop := wireAgainRow.holds Try.pinned (OpenSpec.ofChange wireAgainSpec)

/-- ITS FALSE NEIGHBOUR: 'it returns false'. Refute it at one input. -/
def wireAgainWrong : ChangeSpec := { name := "wireAgain", fn := fun _ => fun
  | [d1, d2] => { results := [.lit (.bool false)], args := [d1, d2] }
  | _ => none }
def WireAgainWrongFalsely : Prop := wireAgainRow.holds Try.pinned (OpenSpec.ofChange wireAgainWrong)

/-- 'sheetpilelaw07.WireShort': WHATEVER THE INPUT: true; the input reads as it did. -/
def wireShortSpec : ChangeSpec := { name := "wireShort", fn := fun _ => fun
  | [d1, d2, d3] => { results := [.lit (.bool true)], args := [d1, d2, d3] }
  | _ => none }
def wireShortRow : OpenClaim := { program := "ytkafepjecpfoeaa", sum := "093a2509b1423031cde0fce9197a17877d9656324005ea017e81a5c9399dfcfc", func := "sheetpile/sheetpilelaw07.WireShort", spec := "wireShort", unfollowed := true, recurses := true, apart := false }
def WireShortSaid : Prop := wireShortRow.holds Try.pinned (OpenSpec.ofChange wireShortSpec)

/-- ITS FALSE NEIGHBOUR: 'it returns false'. Refute it at one input. -/
def wireShortWrong : ChangeSpec := { name := "wireShort", fn := fun _ => fun
  | [d1, d2, d3] => { results := [.lit (.bool false)], args := [d1, d2, d3] }
  | _ => none }
def WireShortWrongFalsely : Prop := wireShortRow.holds Try.pinned (OpenSpec.ofChange wireShortWrong)

/-- 'sheetpilelaw07.WireOrder': WHATEVER THE INPUT: true; the input reads as it did. -/
def wireOrderSpec : ChangeSpec := { name := "wireOrder", fn := fun _ => fun
  | [d1, d2, d3] => { results := [.lit (.bool true)], args := [d1, d2, d3] }
  | _ => none }
def wireOrderRow : OpenClaim := { program := "ytkafepjecpfoeaa", sum := "093a2509b1423031cde0fce9197a17877d9656324005ea017e81a5c9399dfcfc", func := "sheetpile/sheetpilelaw07.WireOrder", spec := "wireOrder", unfollowed := true, recurses := true, apart := false }
def WireOrderSaid : Prop := wireOrderRow.holds Try.pinned (OpenSpec.ofChange wireOrderSpec)

/-- ITS FALSE NEIGHBOUR: 'it returns false'. Refute it at one input. -/
def wireOrderWrong : ChangeSpec := { name := "wireOrder", fn := fun _ => fun
  | [d1, d2, d3] => { results := [.lit (.bool false)], args := [d1, d2, d3] }
  | _ => none }
def WireOrderWrongFalsely : Prop := wireOrderRow.holds Try.pinned (OpenSpec.ofChange wireOrderWrong)

/- THE SECOND FORM. 'bulk': how many values and letters a reading holds, each counted each time it is reached (what is shared counts as often as it is met; a slice's spare places count too). A statement '..UptoSaid' is the law's where the arguments, and the package variables that the reading takes, are together of bulk at most 1048576: NARROWER than '..Said'. Prove '..Said' where nothing that the law and all that it calls make is longer than what came in: it says more and counts as full. Else prove '..UptoSaid'. A law counts once. -/
mutual
def uptoBulk {H : Type} : DataW H → Nat
  | .lit (.string bytes) => bytes.length + 1
  | .lit _ => 1
  | .nil => 1
  | .ptr d => uptoBulk d + 1
  | .slice elems spare => uptoBulkAll elems + uptoBulkAll spare + 1
  | .agg parts => uptoBulkAll parts + 1
  | .iface _ d => uptoBulk d + 1
  | .map entries => uptoBulkEntries entries + 1
  | .held _ => 1
def uptoBulkAll {H : Type} : List (DataW H) → Nat
  | [] => 0
  | d :: r => uptoBulk d + uptoBulkAll r
def uptoBulkEntries {H : Type} : List (Lit × DataW H) → Nat
  | [] => 0
  | x :: r => uptoBulkEntry x + uptoBulkEntries r
def uptoBulkEntry {H : Type} : Lit × DataW H → Nat
  | (.string bytes, d) => bytes.length + uptoBulk d + 1
  | (_, d) => uptoBulk d + 1
 end
def uptoSmall : (H : Type) → List (DataW H) → Bool := fun _ ds => decide (uptoBulkAll ds ≤ 1048576)
def OpenSpec.upto (s : _root_.Go.ChangeSpec) : _root_.Go.OpenSpec := { _root_.Go.OpenSpec.ofChange s with cond := some uptoSmall }

/-- 'sheetpilelaw06.CrcSums', WHERE WHAT IT READS IS OF BULK AT MOST 1048576: true; the input reads as it did. -/
def crcSumsUptoRow : OpenClaim := { program := "ytkafepjecpfoeaa", sum := "093a2509b1423031cde0fce9197a17877d9656324005ea017e81a5c9399dfcfc", func := "sheetpile/sheetpilelaw06.CrcSums", spec := "crcSums", apart := false, narrowed := true }
def CrcSumsUptoSaid : Prop := crcSumsUptoRow.holds Try.pinned (OpenSpec.upto crcSumsSpec)

/-- 'sheetpilelaw06.CrcOn', WHERE WHAT IT READS IS OF BULK AT MOST 1048576: true; the input reads as it did. -/
def crcOnUptoRow : OpenClaim := { program := "ytkafepjecpfoeaa", sum := "093a2509b1423031cde0fce9197a17877d9656324005ea017e81a5c9399dfcfc", func := "sheetpile/sheetpilelaw06.CrcOn", spec := "crcOn", apart := false, narrowed := true }
def CrcOnUptoSaid : Prop := crcOnUptoRow.holds Try.pinned (OpenSpec.upto crcOnSpec)

/-- 'sheetpilelaw06.CrcSeen', WHERE WHAT IT READS IS OF BULK AT MOST 1048576: true; the input reads as it did. -/
def crcSeenUptoRow : OpenClaim := { program := "ytkafepjecpfoeaa", sum := "093a2509b1423031cde0fce9197a17877d9656324005ea017e81a5c9399dfcfc", func := "sheetpile/sheetpilelaw06.CrcSeen", spec := "crcSeen", apart := false, narrowed := true }
def CrcSeenUptoSaid : Prop := crcSeenUptoRow.holds Try.pinned (OpenSpec.upto crcSeenSpec)

/-- 'sheetpilelaw06.CrcParts', WHERE WHAT IT READS IS OF BULK AT MOST 1048576: true; the input reads as it did. -/
def crcPartsUptoRow : OpenClaim := { program := "ytkafepjecpfoeaa", sum := "093a2509b1423031cde0fce9197a17877d9656324005ea017e81a5c9399dfcfc", func := "sheetpile/sheetpilelaw06.CrcParts", spec := "crcParts", apart := false, narrowed := true }
def CrcPartsUptoSaid : Prop := crcPartsUptoRow.holds Try.pinned (OpenSpec.upto crcPartsSpec)

/-- 'sheetpilelaw06.CrcApart', WHERE WHAT IT READS IS OF BULK AT MOST 1048576: true; the input reads as it did. -/
def crcApartUptoRow : OpenClaim := { program := "ytkafepjecpfoeaa", sum := "093a2509b1423031cde0fce9197a17877d9656324005ea017e81a5c9399dfcfc", func := "sheetpile/sheetpilelaw06.CrcApart", spec := "crcApart", apart := false, narrowed := true }
def CrcApartUptoSaid : Prop := crcApartUptoRow.holds Try.pinned (OpenSpec.upto crcApartSpec)

/-- 'sheetpilelaw06.CrcEven', WHERE WHAT IT READS IS OF BULK AT MOST 1048576: true; the input reads as it did. -/
def crcEvenUptoRow : OpenClaim := { program := "ytkafepjecpfoeaa", sum := "093a2509b1423031cde0fce9197a17877d9656324005ea017e81a5c9399dfcfc", func := "sheetpile/sheetpilelaw06.CrcEven", spec := "crcEven", apart := false, narrowed := true }
def CrcEvenUptoSaid : Prop := crcEvenUptoRow.holds Try.pinned (OpenSpec.upto crcEvenSpec)

/-- 'sheetpilelaw07.WireNumbers', WHERE WHAT IT READS IS OF BULK AT MOST 1048576: true; the input reads as it did. -/
def wireNumbersUptoRow : OpenClaim := { program := "ytkafepjecpfoeaa", sum := "093a2509b1423031cde0fce9197a17877d9656324005ea017e81a5c9399dfcfc", func := "sheetpile/sheetpilelaw07.WireNumbers", spec := "wireNumbers", unfollowed := true, recurses := true, apart := false, narrowed := true }
def WireNumbersUptoSaid : Prop := wireNumbersUptoRow.holds Try.pinned (OpenSpec.upto wireNumbersSpec)

/-- 'sheetpilelaw07.WireTexts', WHERE WHAT IT READS IS OF BULK AT MOST 1048576: true; the input reads as it did. -/
def wireTextsUptoRow : OpenClaim := { program := "ytkafepjecpfoeaa", sum := "093a2509b1423031cde0fce9197a17877d9656324005ea017e81a5c9399dfcfc", func := "sheetpile/sheetpilelaw07.WireTexts", spec := "wireTexts", unfollowed := true, recurses := true, apart := false, narrowed := true }
def WireTextsUptoSaid : Prop := wireTextsUptoRow.holds Try.pinned (OpenSpec.upto wireTextsSpec)

/-- 'sheetpilelaw07.WireBack', WHERE WHAT IT READS IS OF BULK AT MOST 1048576: true; the input reads as it did. -/
def wireBackUptoRow : OpenClaim := { program := "ytkafepjecpfoeaa", sum := "093a2509b1423031cde0fce9197a17877d9656324005ea017e81a5c9399dfcfc", func := "sheetpile/sheetpilelaw07.WireBack", spec := "wireBack", unfollowed := true, recurses := true, apart := false, narrowed := true }
def WireBackUptoSaid : Prop := wireBackUptoRow.holds Try.pinned (OpenSpec.upto wireBackSpec)

/-- 'sheetpilelaw07.WireAgain', WHERE WHAT IT READS IS OF BULK AT MOST 1048576: true; the input reads as it did. -/
def wireAgainUptoRow : OpenClaim := { program := "ytkafepjecpfoeaa", sum := "093a2509b1423031cde0fce9197a17877d9656324005ea017e81a5c9399dfcfc", func := "sheetpile/sheetpilelaw07.WireAgain", spec := "wireAgain", unfollowed := true, recurses := true, apart := false, narrowed := true }
def WireAgainUptoSaid : Prop := wireAgainUptoRow.holds Try.pinned (OpenSpec.upto wireAgainSpec)

/-- 'sheetpilelaw07.WireShort', WHERE WHAT IT READS IS OF BULK AT MOST 1048576: true; the input reads as it did. -/
def wireShortUptoRow : OpenClaim := { program := "ytkafepjecpfoeaa", sum := "093a2509b1423031cde0fce9197a17877d9656324005ea017e81a5c9399dfcfc", func := "sheetpile/sheetpilelaw07.WireShort", spec := "wireShort", unfollowed := true, recurses := true, apart := false, narrowed := true }
def WireShortUptoSaid : Prop := wireShortUptoRow.holds Try.pinned (OpenSpec.upto wireShortSpec)

/-- 'sheetpilelaw07.WireOrder', WHERE WHAT IT READS IS OF BULK AT MOST 1048576: true; the input reads as it did. -/
def wireOrderUptoRow : OpenClaim := { program := "ytkafepjecpfoeaa", sum := "093a2509b1423031cde0fce9197a17877d9656324005ea017e81a5c9399dfcfc", func := "sheetpile/sheetpilelaw07.WireOrder", spec := "wireOrder", unfollowed := true, recurses := true, apart := false, narrowed := true }
def WireOrderUptoSaid : Prop := wireOrderUptoRow.holds Try.pinned (OpenSpec.upto wireOrderSpec)

end Rows
end Go.Proofs.Ytkafepjecpfoeaa
