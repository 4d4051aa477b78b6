/- The answers of the document that the statements of wire hold beside them. -/
import Derived.Test.YtkafepjecpfoeaaPWirex1
import Derived.Test.YtkafepjecpfoeaaPureWireBase
namespace Go.Proofs.Ytkafepjecpfoeaa.Pure
set_option linter.unusedVariables false
set_option linter.unusedSimpArgs false
open Go.RowKit Go.Proofs.Ytkafepjecpfoeaa.PWire Go.Proofs.Ytkafepjecpfoeaa.Given Go.Proofs.Ytkafepjecpfoeaa.Bs Go.Proofs.Ytkafepjecpfoeaa.WirePlain Go.Proofs.YtkafepjecpfoeaaW.PrintWords Go.Proofs.YtkafepjecpfoeaaW.PrintLast
theorem live07 (k : Nat) (hk : 10 ≤ k) : sheetpilelaw07_live.f k = some true := by
  unfold sheetpilelaw07_live.f
  rw [wire_Put_f k hk 258 3 (by decide) (by decide), wire_Put_f k hk 256 1 (by decide) (by decide),
    show (⟨#[2, 1, 97, 98]⟩ : ByteArray) = bs [2, 1, 97, 98] from rfl, wire_Cut_f [2, 1, 97, 98] 2 (by decide),
    show (⟨#[97]⟩ : ByteArray) = bs [97] from rfl, wire_Cut_f [97] 2 (by decide),
    show (⟨#[104, 105]⟩ : ByteArray) = bs [104, 105] from rfl, wire_Text_f k hk [104, 105] (by decide),
    show (⟨#[1, 0, 120, 121, 122]⟩ : ByteArray) = bs [1, 0, 120, 121, 122] from rfl, wire_Take_f [1, 0, 120, 121, 122] (by decide)]
  simp only [Option.bind_some, bs_toList]
  decide
end Go.Proofs.Ytkafepjecpfoeaa.Pure
