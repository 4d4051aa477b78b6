/- Summing one text and going on with another is summing both, at texts of at most 5000 bytes each. -/
import Derived.Test.YtkafepjecpfoeaaPCrcx1
import Derived.Test.YtkafepjecpfoeaaPureCrcBase
namespace Go.Proofs.Ytkafepjecpfoeaa.Pure
set_option linter.unusedVariables false
set_option linter.unusedSimpArgs false
open Go.RowKit Go.Proofs.Ytkafepjecpfoeaa.PCrc Go.Proofs.Ytkafepjecpfoeaa.Given Go.Proofs.Ytkafepjecpfoeaa.CrcPlain Go.Proofs.YtkafepjecpfoeaaW.PrintWords Go.Proofs.YtkafepjecpfoeaaW.PrintLast
theorem CrcOn : sheetpilelaw06_CrcOn.Pure := by
  intro a0 a1 h0 h1
  refine ⟨1, ?_⟩
  unfold sheetpilelaw06_CrcOn.f
  by_cases hs : (a0.size : Int) > 5000
  · rw [if_pos hs]; simp only [sheetpilelaw06_CrcOn.j0]; rw [if_pos trivial, live06]; rfl
  · rw [if_neg hs]
    simp only [sheetpilelaw06_CrcOn.j0]
    by_cases ht : (a1.size : Int) > 5000
    · rw [if_pos (by simpa using ht), live06]; rfl
    · rw [if_neg (by simpa using ht), crc_Sum_f a0 (by omega), Option.bind_some, crc_More_f _ a1 (more_lt (by decide) _) (by omega), Option.bind_some, if_pos (by omega), crc_Sum_f (a0 ++ a1) (by rw [ByteArray.size_append]; omega), live06]
      have : (a0 ++ a1).data.toList = a0.data.toList ++ a1.data.toList := by simp
      rw [this, more_append]
      simp
end Go.Proofs.Ytkafepjecpfoeaa.Pure
