/- Any group's bytes, or why there are none, are the reference's; of at most 80 changes, keys of 300 bytes, values of 1200. -/
import Derived.Test.YtcgbjkjacpeheaaPFrx12
import Derived.Test.YtcgbjkjacpeheaaPureFrLive
import Derived.Test.YtcgbjkjacpeheaaPureFrG
namespace Go.Proofs.Ytcgbjkjacpeheaa.Pure
set_option linter.unusedVariables false
set_option linter.unusedSimpArgs false
open Go.RowKit Go.Proofs.Ytcgbjkjacpeheaa.PFr Go.Proofs.Ytcgbjkjacpeheaa.Given Go.Proofs.Ytcgbjkjacpeheaa.Bs Go.Proofs.Ytcgbjkjacpeheaa.WirePlain Go.Proofs.YtcgbjkjacpeheaaW.PrintWords Go.Proofs.YtcgbjkjacpeheaaW.PrintLast
theorem FrameWrites (q0 : Int) (l0 : List S62) (w0 : (Lit.int .i64 q0).wf = true ∧ l0.length * 40 ≤ 140737488351232 ∧ ∀ z ∈ l0, z.f0.size ≤ 140737488351232 ∧ z.f1.size ≤ 140737488351232 ∧ True) : ∃ k, sheetpilelaw19_FrameWrites.f k q0 l0 = some true := by
  obtain ⟨wq, wl, _⟩ := w0
  obtain ⟨h0, h1⟩ := i64_wf wq
  obtain ⟨K, hK⟩ : ∃ K, K = 90000000 + l0.length := ⟨_, rfl⟩
  refine ⟨K, ?_⟩
  unfold sheetpilelaw19_FrameWrites.f
  rw [few_f l0 (by omega) K (by omega), Option.bind_some, live19 K (by omega)]
  by_cases hf : (fewL l0 && decide (l0.length ≤ 80)) = true
  · obtain ⟨hl, hs⟩ := few_sizes hf
    have hs2 : ∀ c ∈ l0, c.f0.size ≤ 65535 ∧ c.f1.size ≤ 65535 := fun c hc => by have := hs c hc; omega
    rw [if_pos hf, show sheetpilelaw19_own.f q0 l0 = some true from rfl, Option.bind_some, frame_Write_f q0 l0 h0 h1 hs2, Option.bind_some, ref19_Write_f q0 l0 h0 h1 hs2 K (by omega), Option.bind_some, if_pos rfl, if_pos rfl,
      frame_Check_f K (by omega) l0 (fun c hc => by have := hs c hc; omega), Option.bind_some, ref19_Check_f 300 (by decide) K (by omega) l0 (fun c hc => (hs c hc).1), Option.bind_some, if_pos rfl]; rfl
  · rw [if_neg hf]; rfl
end Go.Proofs.Ytcgbjkjacpeheaa.Pure
