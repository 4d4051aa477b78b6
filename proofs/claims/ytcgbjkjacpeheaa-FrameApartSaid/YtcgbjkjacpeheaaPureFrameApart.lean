/- Groups that are not the same are not written alike; none is the begin of another one; of at most 80 changes, keys of 300 bytes, values of 1200. -/
import Derived.Test.YtcgbjkjacpeheaaPFrx15
import Derived.Test.YtcgbjkjacpeheaaPureFrLive
import Derived.Test.YtcgbjkjacpeheaaPureFrG
namespace Go.Proofs.Ytcgbjkjacpeheaa.Pure
set_option linter.unusedVariables false
set_option linter.unusedSimpArgs false
open Go.RowKit Go.Proofs.Ytcgbjkjacpeheaa.PFr Go.Proofs.Ytcgbjkjacpeheaa.Given Go.Proofs.Ytcgbjkjacpeheaa.Bs Go.Proofs.Ytcgbjkjacpeheaa.WirePlain Go.Proofs.YtcgbjkjacpeheaaW.PrintWords Go.Proofs.YtcgbjkjacpeheaaW.PrintLast
theorem writeL_ok (seq : Nat) (l : List S62) (hq : seq < 4294967296) (hc : checkL l = 0) : writeL (seq : Int) l = (frameL seq l, 0) := by
  unfold writeL
  rw [if_pos hc, if_pos ⟨by omega, by omega⟩, Int.toNat_natCast]
theorem writeL_zero {seq : Int} {l : List S62} (h : (writeL seq l).2 = 0) : ∃ n : Nat, seq = n ∧ n < 4294967296 ∧ checkL l = 0 ∧ writeL seq l = (frameL n l, 0) := by
  unfold writeL at h
  split at h
  · rename_i hc
    split at h
    · rename_i hq
      obtain ⟨n, rfl⟩ := Int.eq_ofNat_of_zero_le hq.1
      exact ⟨n, rfl, by omega, hc, writeL_ok n l (by omega) hc⟩
    · simp at h
  · rename_i hc; exact absurd h hc
theorem writeL_err {seq : Int} {l : List S62} (h : (writeL seq l).2 ≠ 0) : (writeL seq l).1 = [] := by
  unfold writeL at h ⊢
  split
  · split
    · rename_i h1 h2; rw [if_pos h1, if_pos h2] at h; exact absurd rfl h
    · rfl
  · rfl
theorem frame_begin {q q' : Nat} {l l' : List S62} (hq : q < 4294967296) (hc : checkL l = 0) (hn : NormL l) (hq' : q' < 4294967296) (hc' : checkL l' = 0) (hn' : NormL l') :
    (frameL q' l').take (frameL q l).length = frameL q l ↔ q = q' ∧ l = l' := by
  constructor
  · intro h
    have hd : frameL q' l' = frameL q l ++ (frameL q' l').drop (frameL q l).length := by
      conv => lhs; rw [← List.take_append_drop (frameL q l).length (frameL q' l'), h]
    have e1 := readF_frame q' l' [] hq' hc' hn'
    rw [List.append_nil, hd, readF_frame q l _ hq hc hn] at e1
    simp only [Prod.mk.injEq] at e1
    exact ⟨by omega, e1.2.1⟩
  · rintro ⟨rfl, rfl⟩
    rw [List.take_length]
theorem FrameApart (q0 : Int) (l0 : List S62) (w0 : (Lit.int .i64 q0).wf = true ∧ l0.length * 40 ≤ 140737488351232 ∧ ∀ z ∈ l0, z.f0.size ≤ 140737488351232 ∧ z.f1.size ≤ 140737488351232 ∧ True) (q1 : Int) (l1 : List S62) (w1 : (Lit.int .i64 q1).wf = true ∧ l1.length * 40 ≤ 140737488351232 ∧ ∀ z ∈ l1, z.f0.size ≤ 140737488351232 ∧ z.f1.size ≤ 140737488351232 ∧ True) : ∃ k, sheetpilelaw19_FrameApart.f k q0 l0 q1 l1 = some true := by
  obtain ⟨wq, wl, _⟩ := w0
  obtain ⟨wq', wl', _⟩ := w1
  obtain ⟨h0, h1⟩ := i64_wf wq
  obtain ⟨h0', h1'⟩ := i64_wf wq'
  obtain ⟨K, hK⟩ : ∃ K, K = 300 + l0.length + l1.length := ⟨_, rfl⟩
  refine ⟨K + 2, ?_⟩
  unfold sheetpilelaw19_FrameApart.f
  rw [few_f l0 (by omega) (K + 2) (by omega), Option.bind_some, few_f l1 (by omega) (K + 2) (by omega), Option.bind_some]
  by_cases hf : (fewL l0 && decide (l0.length ≤ 80)) = true
  · rw [if_pos hf, sheetpilelaw19_FrameApart.j0, live19 (K + 1) (by omega)]
    by_cases hf' : (fewL l1 && decide (l1.length ≤ 80)) = true
    · obtain ⟨hl, hs⟩ := few_sizes hf
      obtain ⟨hl', hs'⟩ := few_sizes hf'
      have hs2 : ∀ c ∈ l0, c.f0.size ≤ 65535 ∧ c.f1.size ≤ 65535 := fun c hc => by have := hs c hc; omega
      have hs2' : ∀ c ∈ l1, c.f0.size ≤ 65535 ∧ c.f1.size ≤ 65535 := fun c hc => by have := hs' c hc; omega
      rw [if_neg (by rw [hf']; decide), show sheetpilelaw19_own.f q0 l0 = some true from rfl, Option.bind_some, frame_Write_f q0 l0 h0 h1 hs2, Option.bind_some, show sheetpilelaw19_own.f q1 l1 = some true from rfl, Option.bind_some, frame_Write_f q1 l1 h0' h1' hs2', Option.bind_some]
      simp only [sheetpilelaw19_FrameApart.j1]
      rw [live19 K (by omega)]
      by_cases he : (writeL q0 l0).2 = 0
      · rw [if_pos he]
        by_cases he' : (writeL q1 l1).2 = 0
        · obtain ⟨n, rfl, hq, hc, hw⟩ := writeL_zero he
          obtain ⟨n', rfl, hq', hc', hw'⟩ := writeL_zero he'
          have hn := normL_of hc (fun c hc => (hs2 c hc).1)
          have hn' := normL_of hc' (fun c hc => (hs2' c hc).1)
          have key := frame_begin hq hc hn hq' hc' hn'
          rw [hw, hw']
          simp only [bs_size]
          rw [if_neg (by decide)]
          obtain ⟨r, hr1, hr2⟩ := changes_f l0 l1 (by omega) K (by omega)
          rw [hr1]
          by_cases hle : ((frameL n l0).length : Int) ≤ ((frameL n' l1).length : Int)
          · rw [if_pos hle, if_pos (by omega), Int.toNat_natCast, bs_extract_zero, bs_toList, bs_toList]
            by_cases hnn : (n : Int) = (n' : Int)
            · rw [if_pos hnn, Option.bind_some, if_pos ?_]; · rfl
              have hnn2 : n = n' := by omega
              cases r with
              | true =>
                have := key.2 ⟨hnn2, hr2.1 rfl⟩
                rw [this]; simp
              | false =>
                have : ¬ (frameL n' l1).take (frameL n l0).length = frameL n l0 := fun h => by
                  have := hr2.2 (key.1 h).2
                  cases this
                simp [this]
            · rw [if_neg hnn, if_pos ?_]; · rfl
              have : ¬ (frameL n' l1).take (frameL n l0).length = frameL n l0 := fun h => hnn (by have := (key.1 h).1; omega)
              simp [this]
          · rw [if_neg hle]
            have hne : ¬ (n = n' ∧ l0 = l1) := fun h => by rw [h.1, h.2] at hle; omega
            by_cases hnn : (n : Int) = (n' : Int)
            · rw [if_pos hnn, Option.bind_some, if_pos ?_]; · rfl
              cases r with
              | true => exact absurd ⟨by omega, hr2.1 rfl⟩ hne
              | false => rfl
            · rw [if_neg hnn, if_pos (by rfl)]; rfl
        · rw [if_pos (by simpa using he')]; rfl
      · rw [if_neg he, if_pos trivial]; rfl
    · rw [Bool.not_eq_true] at hf'
      rw [hf', if_pos (by rfl)]; rfl
  · rw [if_neg hf, sheetpilelaw19_FrameApart.j0, live19 (K + 1) (by omega), if_pos rfl]; rfl
end Go.Proofs.Ytcgbjkjacpeheaa.Pure
