/- The program's sums are the reference's at every number of 32 bits and every text of at most 5000 bytes. -/
import Derived.Test.YtkafepjecpfoeaaPCrcx1
import Derived.Test.YtkafepjecpfoeaaPureCrcBase
namespace Go.Proofs.Ytkafepjecpfoeaa.Pure
set_option linter.unusedVariables false
set_option linter.unusedSimpArgs false
open Go.RowKit Go.Proofs.Ytkafepjecpfoeaa.PCrc Go.Proofs.Ytkafepjecpfoeaa.Given Go.Proofs.Ytkafepjecpfoeaa.CrcPlain Go.Proofs.YtkafepjecpfoeaaW.PrintWords Go.Proofs.YtkafepjecpfoeaaW.PrintLast
theorem CrcSums : sheetpilelaw06_CrcSums.Pure := by
  intro a0 a1 h0 h1
  obtain ⟨n, rfl, hn⟩ := u32_nat h0
  refine ⟨10 * a1.size + 1, ?_⟩
  unfold sheetpilelaw06_CrcSums.f
  by_cases hs : (a1.size : Int) > 5000
  · rw [if_pos hs, live06]; rfl
  · rw [if_neg hs, crc_Sum_f a1 (by omega), ref_Sum_f a1 (by omega) _ (Nat.le_refl _), crc_More_f n a1 hn (by omega), ref_More_f n a1 hn (by omega) _ (Nat.le_refl _), live06]
    simp
end Go.Proofs.Ytkafepjecpfoeaa.Pure
