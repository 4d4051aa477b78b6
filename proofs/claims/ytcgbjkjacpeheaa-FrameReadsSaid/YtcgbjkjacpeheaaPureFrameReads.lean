/- The group of any bytes, and what stands behind it, is the reference's; of at most 3000 bytes. -/
import Derived.Test.YtcgbjkjacpeheaaPFrx13
import Derived.Test.YtcgbjkjacpeheaaPureFrLive
namespace Go.Proofs.Ytcgbjkjacpeheaa.Pure
set_option linter.unusedVariables false
set_option linter.unusedSimpArgs false
open Go.RowKit Go.Proofs.Ytcgbjkjacpeheaa.PFr Go.Proofs.Ytcgbjkjacpeheaa.Given Go.Proofs.Ytcgbjkjacpeheaa.Bs Go.Proofs.Ytcgbjkjacpeheaa.WirePlain Go.Proofs.YtcgbjkjacpeheaaW.PrintWords Go.Proofs.YtcgbjkjacpeheaaW.PrintLast
theorem readF_small (l : List UInt8) (hl : l.length ≤ 900000) : (readF l).2.1.length ≤ 1000000 := by
  rcases readF_err l with h | h
  · obtain ⟨seq, _, _, hc, _, _⟩ := readF_back (l := l) (q := (readF l).1) (cs := (readF l).2.1) (left := (readF l).2.2.1) (by rw [← h])
    have := checkL_len hc
    omega
  · rw [h.1]; simp
theorem FrameReads : sheetpilelaw19_FrameReads.Pure := by
  intro a0 h0
  obtain ⟨l, rfl⟩ := ex_bs a0
  rw [bs_size] at h0
  obtain ⟨K, hK⟩ : ∃ K, K = 1100000 := ⟨_, rfl⟩
  refine ⟨K, ?_⟩
  unfold sheetpilelaw19_FrameReads.f
  rw [bs_size, live19 K (by omega)]
  by_cases hs : (l.length : Int) > 3000
  · rw [if_pos hs]; rfl
  · rw [if_neg hs, frame_Read_f K (by omega) l (by omega), Option.bind_some, ref19_Read_f l (by omega) K (by omega), Option.bind_some]
    rw [if_pos rfl]
    simp only [outR]
    rw [ref19_Changes_same _ (by have := readF_small l (by omega); omega) K (by have := readF_small l (by omega); omega), Option.bind_some, if_pos rfl]
    simp only [if_true]; rfl
end Go.Proofs.Ytcgbjkjacpeheaa.Pure
