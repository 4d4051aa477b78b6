/- The bytes of any text and the text of any bytes are the reference's; of at most 70000 bytes, and 1000. -/
import Derived.Test.YtkafepjecpfoeaaPWirex2
import Derived.Test.YtkafepjecpfoeaaPureLive07
import Derived.Test.YtkafepjecpfoeaaPureRef07
namespace Go.Proofs.Ytkafepjecpfoeaa.Pure
set_option linter.unusedVariables false
set_option linter.unusedSimpArgs false
open Go.RowKit Go.Proofs.Ytkafepjecpfoeaa.PWire Go.Proofs.Ytkafepjecpfoeaa.Given Go.Proofs.Ytkafepjecpfoeaa.Bs Go.Proofs.Ytkafepjecpfoeaa.WirePlain Go.Proofs.YtkafepjecpfoeaaW.PrintWords Go.Proofs.YtkafepjecpfoeaaW.PrintLast
theorem ref_Text_f (k : Nat) (hk : 10 ≤ k) (l : List UInt8) (h : l.length ≤ 281474976710656) : sheetpileref07_Text.f k (bs l) = some (bs (textL l).1, (textL l).2) := by
  rw [← wire_Text_f k hk l h]
  unfold sheetpileref07_Text.f wire_Text.f
  rw [bs_size, ref_Put_f k hk _ _ (by omega) (by omega), wire_Put_f k hk _ _ (by omega) (by omega)]
theorem ref_Take_f (k : Nat) (hk : 10 ≤ k) (l : List UInt8) (h : l.length ≤ 281474976710656) : sheetpileref07_Take.f k (bs l) = some (bs (takeL l).1, bs (takeL l).2.1, (takeL l).2.2) := by
  rw [← wire_Take_f l h]
  unfold sheetpileref07_Take.f wire_Take.f
  rw [ref_Cut_f k hk l 2 h (by decide) (by decide), wire_Cut_f l 2 h]
theorem WireTexts : sheetpilelaw07_WireTexts.Pure := by
  intro a0 a1 h0 h1
  obtain ⟨l, rfl⟩ := ex_bs a0
  obtain ⟨m, rfl⟩ := ex_bs a1
  rw [bs_size] at h0 h1
  refine ⟨11, ?_⟩
  unfold sheetpilelaw07_WireTexts.f
  simp only [sheetpilelaw07_WireTexts.j0]
  rw [live07 10 (by decide), wire_Text_f 10 (by decide) _ (by omega), ref_Text_f 10 (by decide) _ (by omega), wire_Take_f _ (by omega), ref_Take_f 10 (by decide) _ (by omega)]
  simp
end Go.Proofs.Ytkafepjecpfoeaa.Pure
