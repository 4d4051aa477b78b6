/- The record of any intent and the intent of any record are the reference's; of at most 1000 bytes. -/
import Derived.Test.YtdkaokjnfkfngaaPIntx5
import Derived.Test.YtdkaokjnfkfngaaPureIntBase
namespace Go.Proofs.Ytdkaokjnfkfngaa.Pure
set_option linter.unusedVariables false
set_option linter.unusedSimpArgs false
open Go.RowKit Go.Proofs.Ytdkaokjnfkfngaa.PInt Go.Proofs.Ytdkaokjnfkfngaa.PWir Go.Proofs.Ytdkaokjnfkfngaa.Given Go.Proofs.Ytdkaokjnfkfngaa.Bs Go.Proofs.Ytdkaokjnfkfngaa.WirePlain Go.Proofs.YtdkaokjnfkfngaaW.PrintWords Go.Proofs.YtdkaokjnfkfngaaW.PrintLast
theorem IntentTells (q s : Int) (t : ByteArray) (w0 : (Lit.int .i64 q).wf = true ∧ (Lit.int .i64 s).wf = true ∧ t.size ≤ 140737488351232) (a1 : ByteArray) (w1 : a1.size ≤ 140737488351232) : ∃ k, sheetpilelaw14_IntentTells.f k q s t a1 = some true := by
  obtain ⟨wq, ws, wt⟩ := w0
  obtain ⟨q0, q1⟩ := i64_wf wq
  obtain ⟨s0, s1⟩ := i64_wf ws
  obtain ⟨t, rfl⟩ := ex_bs t
  rw [bs_size] at wt
  obtain ⟨l, rfl⟩ := ex_bs a1
  rw [bs_size] at w1
  refine ⟨12, ?_⟩
  unfold sheetpilelaw14_IntentTells.f
  simp only [sheetpilelaw14_IntentTells.j0]
  rw [live14, own14, intent_Read_f l (by omega), ref14_Read_f 11 (by decide) l (by omega)]
  simp only [Option.bind_some]
  rw [intent_Write_f q s t q0 q1 s0 s1 (by omega), ref14_Write_f 11 (by decide) q s t q0 q1 s0 s1 (by omega)]
  simp only [Option.bind_some, told14]
  simp
end Go.Proofs.Ytdkaokjnfkfngaa.Pure
