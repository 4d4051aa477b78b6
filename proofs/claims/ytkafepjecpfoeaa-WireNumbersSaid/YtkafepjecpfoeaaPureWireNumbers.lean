/- The bytes of any number and the number of any bytes are the reference's; of at most 1000 bytes. -/
import Derived.Test.YtkafepjecpfoeaaPWirex2
import Derived.Test.YtkafepjecpfoeaaPureLive07
import Derived.Test.YtkafepjecpfoeaaPureRef07
namespace Go.Proofs.Ytkafepjecpfoeaa.Pure
set_option linter.unusedVariables false
set_option linter.unusedSimpArgs false
open Go.RowKit Go.Proofs.Ytkafepjecpfoeaa.PWire Go.Proofs.Ytkafepjecpfoeaa.Given Go.Proofs.Ytkafepjecpfoeaa.Bs Go.Proofs.Ytkafepjecpfoeaa.WirePlain Go.Proofs.YtkafepjecpfoeaaW.PrintWords Go.Proofs.YtkafepjecpfoeaaW.PrintLast
theorem WireNumbers : sheetpilelaw07_WireNumbers.Pure := by
  intro a0 a1 a2 h0 h1 h2
  obtain ⟨l, rfl⟩ := ex_bs a2
  rw [bs_size] at h2
  obtain ⟨b0, b1⟩ := i64_wf h0
  obtain ⟨c0, c1⟩ := i64_wf h1
  refine ⟨10, ?_⟩
  unfold sheetpilelaw07_WireNumbers.f
  rw [live07 10 (by decide), wire_Put_f 10 (by decide) _ _ b0 b1, ref_Put_f 10 (by decide) _ _ b0 b1, wire_Cut_f _ _ (by omega), ref_Cut_f 10 (by decide) _ _ (by omega) c0 c1]
  simp
end Go.Proofs.Ytkafepjecpfoeaa.Pure
