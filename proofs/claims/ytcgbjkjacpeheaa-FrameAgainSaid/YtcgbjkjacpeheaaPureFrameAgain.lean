/- What is read, and written, is the bytes that it was read from; of at most 3000 bytes. -/
import Derived.Test.YtcgbjkjacpeheaaPFrx16
import Derived.Test.YtcgbjkjacpeheaaPureFrLive
namespace Go.Proofs.Ytcgbjkjacpeheaa.Pure
set_option linter.unusedVariables false
set_option linter.unusedSimpArgs false
open Go.RowKit Go.Proofs.Ytcgbjkjacpeheaa.PFr Go.Proofs.Ytcgbjkjacpeheaa.Given Go.Proofs.Ytcgbjkjacpeheaa.Bs Go.Proofs.Ytcgbjkjacpeheaa.WirePlain Go.Proofs.YtcgbjkjacpeheaaW.PrintWords Go.Proofs.YtcgbjkjacpeheaaW.PrintLast
theorem writeL_ok (seq : Nat) (l : List S62) (hq : seq < 4294967296) (hc : checkL l = 0) : writeL (seq : Int) l = (frameL seq l, 0) := by
  unfold writeL
  rw [if_pos hc, if_pos ⟨by omega, by omega⟩, Int.toNat_natCast]
theorem FrameAgain : sheetpilelaw19_FrameAgain.Pure := by
  intro a0 h0
  obtain ⟨l, rfl⟩ := ex_bs a0
  rw [bs_size] at h0
  obtain ⟨K, hK⟩ : ∃ K, K = 1100000 := ⟨_, rfl⟩
  refine ⟨K, ?_⟩
  unfold sheetpilelaw19_FrameAgain.f
  rw [bs_size, live19 K (by omega)]
  by_cases hs : (l.length : Int) > 3000
  · rw [if_pos hs]; rfl
  · rw [if_neg hs, frame_Read_f K (by omega) l (by omega), Option.bind_some]
    by_cases h : (readF l).2.2.2 = 0
    · obtain ⟨seq, e, hq, hc, hn, hl⟩ := readF_back (l := l) (q := (readF l).1) (cs := (readF l).2.1) (left := (readF l).2.2.1) (by rw [← h])
      generalize readF l = R at *
      obtain ⟨q, cs, left, e0⟩ := R
      simp only [] at h e hc hn hl
      subst h e
      simp only [outR]
      rw [if_pos trivial, frame_Write_f _ cs (by omega) (by omega) (normL_sizes hn), Option.bind_some, writeL_ok seq cs hq hc]
      have hlen : (frameL seq cs).length + left.length = l.length := by rw [hl, List.length_append]
      simp only [bs_size, bs_append, bs_toList]
      rw [if_pos (by omega), if_pos (by rw [hl])]
      simp only [if_true]; rfl
    · have he := (readF_err l).resolve_left h
      simp only [outR]
      simp [h, he.1, he.2.1, bs_toList]
end Go.Proofs.Ytcgbjkjacpeheaa.Pure
