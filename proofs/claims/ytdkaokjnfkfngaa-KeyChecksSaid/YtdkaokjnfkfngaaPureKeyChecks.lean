/- Whether any text is a key, and how many runes it has. -/
import Derived.Test.YtdkaokjnfkfngaaPKeyx2
import Derived.Test.YtdkaokjnfkfngaaPureRef08
namespace Go.Proofs.Ytdkaokjnfkfngaa.Pure
set_option linter.unusedVariables false
set_option linter.unusedSimpArgs false
open Go.RowKit Go.Proofs.Ytdkaokjnfkfngaa.PKey Go.Proofs.Ytdkaokjnfkfngaa.Given Go.Proofs.Ytdkaokjnfkfngaa.Bs Go.Proofs.Ytdkaokjnfkfngaa.KeyPlain Go.Proofs.Ytdkaokjnfkfngaa.RunesPlain Go.Proofs.YtdkaokjnfkfngaaW.PrintWords Go.Proofs.YtdkaokjnfkfngaaW.PrintLast
theorem KeyChecks : sheetpilelaw08_KeyChecks.Pure := by
  intro a0 h0
  obtain ⟨s, rfl⟩ := ex_bs a0
  obtain ⟨K, hK⟩ : ∃ K, K = 5000 := ⟨_, rfl⟩
  refine ⟨K, ?_⟩
  unfold sheetpilelaw08_KeyChecks.f
  rw [bs_size, live08 K (by omega)]
  by_cases ha : (s.length : Int) > 1000
  · rw [if_pos ha]; rfl
  · rw [if_neg ha, key_Count_f s (by omega), ref_Runes_f s (by omega) K (by omega), key_Check_f K (by omega) s (by omega), ref_Check_f s (by omega) K (by omega)]
    simp only [Option.bind_some, beq_self_eq_true, if_true]
end Go.Proofs.Ytdkaokjnfkfngaa.Pure
