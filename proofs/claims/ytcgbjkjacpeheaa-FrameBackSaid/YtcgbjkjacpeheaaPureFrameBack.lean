/- What is written is read, whatever stands behind it; without its end it is cut, wherever; of at most 80 changes, keys of 300 bytes, values of 1200. -/
import Derived.Test.YtcgbjkjacpeheaaPFrx14
import Derived.Test.YtcgbjkjacpeheaaPureFrLive
import Derived.Test.YtcgbjkjacpeheaaPureFrG
namespace Go.Proofs.Ytcgbjkjacpeheaa.Pure
set_option linter.unusedVariables false
set_option linter.unusedSimpArgs false
open Go.RowKit Go.Proofs.Ytcgbjkjacpeheaa.PFr Go.Proofs.Ytcgbjkjacpeheaa.Given Go.Proofs.Ytcgbjkjacpeheaa.Bs Go.Proofs.Ytcgbjkjacpeheaa.WirePlain Go.Proofs.YtcgbjkjacpeheaaW.PrintWords Go.Proofs.YtcgbjkjacpeheaaW.PrintLast
theorem writeL_ok (seq : Nat) (l : List S62) (hq : seq < 4294967296) (hc : checkL l = 0) : writeL (seq : Int) l = (frameL seq l, 0) := by
  unfold writeL
  rw [if_pos hc, if_pos ⟨by omega, by omega⟩, Int.toNat_natCast]
theorem writeL_zero {seq : Int} {l : List S62} (h : (writeL seq l).2 = 0) : ∃ n : Nat, seq = n ∧ n < 4294967296 ∧ checkL l = 0 ∧ writeL seq l = (frameL n l, 0) := by
  unfold writeL at h
  split at h
  · rename_i hc
    split at h
    · rename_i hq
      obtain ⟨n, rfl⟩ := Int.eq_ofNat_of_zero_le hq.1
      exact ⟨n, rfl, by omega, hc, writeL_ok n l (by omega) hc⟩
    · simp at h
  · rename_i hc; exact absurd h hc
theorem writeL_err {seq : Int} {l : List S62} (h : (writeL seq l).2 ≠ 0) : (writeL seq l).1 = [] := by
  unfold writeL at h ⊢
  split
  · split
    · rename_i h1 h2; rw [if_pos h1, if_pos h2] at h; exact absurd rfl h
    · rfl
  · rfl
theorem frameBack_j2 (k : Nat) (hk : 200 ≤ k) (seq : Nat) (l : List S62) (hl : (frameL seq l).length ≤ 900000) (hb : (bodyL l).length < 4294967296) (n : Int) : sheetpilelaw19_FrameBack.j2 (k + 1) n (bs (frameL seq l)) (decide (n < 0) || decide (n ≥ ((frameL seq l).length : Int))) = some true := by
  rw [sheetpilelaw19_FrameBack.j2, live19 k hk]
  by_cases h : (decide (n < 0) || decide (n ≥ ((frameL seq l).length : Int))) = true
  · rw [if_pos h]; rfl
  · rw [if_neg h]
    simp only [Bool.or_eq_true, decide_eq_true_eq, not_or] at h
    obtain ⟨m, rfl⟩ := Int.eq_ofNat_of_zero_le (show 0 ≤ n by omega)
    rw [if_pos (by omega), bs_size, if_pos (by omega), Int.toNat_natCast, bs_extract_zero, frame_Read_f k (by omega) _ (by rw [List.length_take]; omega), readF_cut seq l m hb (by omega), Option.bind_some]
    simp only [outR]
    rw [if_pos (by rfl), bs_toList]
    simp only [if_true]; rfl
theorem FrameBack (q0 : Int) (l0 : List S62) (w0 : (Lit.int .i64 q0).wf = true ∧ l0.length * 40 ≤ 140737488351232 ∧ ∀ z ∈ l0, z.f0.size ≤ 140737488351232 ∧ z.f1.size ≤ 140737488351232 ∧ True) (a1 : ByteArray) (w1 : a1.size ≤ 140737488351232) (n : Int) (w2 : (Lit.int .i64 n).wf = true) : ∃ k, sheetpilelaw19_FrameBack.f k q0 l0 a1 n = some true := by
  obtain ⟨wq, wl, _⟩ := w0
  obtain ⟨h0, h1⟩ := i64_wf wq
  obtain ⟨m, rfl⟩ := ex_bs a1
  rw [bs_size] at w1
  obtain ⟨K, hK⟩ : ∃ K, K = 300 + l0.length := ⟨_, rfl⟩
  refine ⟨K + 3, ?_⟩
  unfold sheetpilelaw19_FrameBack.f
  rw [few_f l0 (by omega) (K + 3) (by omega), Option.bind_some]
  by_cases hf : (fewL l0 && decide (l0.length ≤ 80)) = true
  · obtain ⟨hl, hs⟩ := few_sizes hf
    have hs2 : ∀ c ∈ l0, c.f0.size ≤ 65535 ∧ c.f1.size ≤ 65535 := fun c hc => by have := hs c hc; omega
    rw [if_pos hf, sheetpilelaw19_FrameBack.j0, live19 (K + 2) (by omega), bs_size]
    by_cases hm : (m.length : Int) > 1000
    · rw [if_pos (by simpa using hm)]; rfl
    · rw [if_neg (by simpa using hm), show sheetpilelaw19_own.f q0 l0 = some true from rfl, Option.bind_some, frame_Write_f q0 l0 h0 h1 hs2, Option.bind_some]
      by_cases he : (writeL q0 l0).2 = 0
      · obtain ⟨seq, rfl, hq, hc, hw⟩ := writeL_zero he
        have hn := normL_of hc (fun c hc => (hs2 c hc).1)
        have hbl : (bodyL l0).length ≤ 1505 * 64 := by
          have h64 := checkL_len hc
          have : ∀ (l : List S62), (∀ c ∈ l, c.f0.size ≤ 300 ∧ c.f1.size ≤ 1200) → (bodyL l).length ≤ 1505 * l.length := by
            intro l
            induction l with
            | nil => intro _; simp [bodyL, chsB]
            | cons c l ih =>
              intro h
              have g := h c List.mem_cons_self
              have := ih (fun c hc => h c (List.mem_cons_of_mem _ hc))
              have hcl : (chB txL c).length ≤ 1505 := by
                unfold chB; split
                · simp only [List.length_cons, txL_len]; omega
                · simp only [List.length_cons, List.length_append, txL_len]; omega
              rw [bodyL_cons, List.length_append, List.length_cons]; omega
          have := this l0 hs
          omega
        have hfl := frameL_length seq l0
        rw [hw]
        simp only [bs_append, bs_size]
        rw [if_pos trivial, if_pos (by omega), frame_Read_f (K + 2) (by omega) _ (by rw [List.length_append]; omega), readF_frame seq l0 m hq hc hn, Option.bind_some]
        simp only [outR]
        rw [if_pos trivial, ref19_Changes_same l0 (by omega) (K + 2) (by omega), Option.bind_some, if_pos rfl]
        simp only [if_true]
        rw [sheetpilelaw19_FrameBack.j1, if_neg (by decide)]
        have hj := frameBack_j2 K (by omega) seq l0 (by omega) (by omega) n
        rw [bs_size]
        by_cases hn0 : n < 0
        · rw [if_pos hn0]
          rw [decide_eq_true hn0, Bool.true_or] at hj
          exact hj
        · rw [if_neg hn0]
          rw [decide_eq_false hn0, Bool.false_or] at hj
          exact hj
      · rw [if_neg he, writeL_err he, bs_toList, if_pos rfl]; rfl
  · rw [if_neg hf, sheetpilelaw19_FrameBack.j0, live19 (K + 2) (by omega), if_pos rfl]; rfl
end Go.Proofs.Ytcgbjkjacpeheaa.Pure
