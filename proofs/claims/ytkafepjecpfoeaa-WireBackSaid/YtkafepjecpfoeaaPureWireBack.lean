/- What is put is cut, and what is text is taken, whatever stands behind it; of at most 1000 bytes each. -/
import Derived.Test.YtkafepjecpfoeaaPWirex3
import Derived.Test.YtkafepjecpfoeaaPureLive07
namespace Go.Proofs.Ytkafepjecpfoeaa.Pure
set_option linter.unusedVariables false
set_option linter.unusedSimpArgs false
open Go.RowKit Go.Proofs.Ytkafepjecpfoeaa.PWire Go.Proofs.Ytkafepjecpfoeaa.Given Go.Proofs.Ytkafepjecpfoeaa.Bs Go.Proofs.Ytkafepjecpfoeaa.WirePlain Go.Proofs.YtkafepjecpfoeaaW.PrintWords Go.Proofs.YtkafepjecpfoeaaW.PrintLast
theorem wireBack_pure (a0 a1 : Int) (a2 a3 : ByteArray) (h0 : (Lit.int .i64 a0).wf = true) (h1 : (Lit.int .i64 a1).wf = true) (h2 : a2.size ≤ 140737488351232) (h3 : a3.size ≤ 140737488351232) : ∃ k, sheetpilelaw07_WireBack.f k a0 a1 a2 a3 = some true := by
  obtain ⟨l, rfl⟩ := ex_bs a2
  obtain ⟨m, rfl⟩ := ex_bs a3
  rw [bs_size] at h2 h3
  obtain ⟨b0, b1⟩ := i64_wf h0
  refine ⟨13, ?_⟩
  unfold sheetpilelaw07_WireBack.f
  rw [bs_size, bs_size]
  have done : sheetpilelaw07_WireBack.j0 13 a0 a1 (bs l) (bs m) true = some true := by
    simp only [sheetpilelaw07_WireBack.j0]; rw [live07 12 (by decide)]; rfl
  by_cases hs : (l.length : Int) > 1000
  · rw [if_pos hs, done]
  · rw [if_neg hs]
    by_cases ht : (m.length : Int) > 1000
    · have hd : decide ((m.length : Int) > 1000) = true := decide_eq_true ht
      rw [hd, done]
    · have hd : decide ((m.length : Int) > 1000) = false := decide_eq_false ht
      rw [hd]
      have hl2 := lowB_length 2 l.length
      simp only [sheetpilelaw07_WireBack.j0]
      rw [if_neg (by decide), wire_Put_f 12 (by decide) _ _ b0 b1, wire_Text_f 12 (by decide) _ (by omega), textL_ok (by omega)]
      simp only [Option.bind_some, bs_size, if_true, bs_append, List.length_append, hl2]
      rw [if_pos (by omega), wire_Take_f _ (by simp [hl2]; omega), takeL_text l m (by omega)]
      simp only [Option.bind_some, if_true, bne_self_eq_false, bs_toList]
      simp only [sheetpilelaw07_WireBack.j1]
      rw [if_neg (by decide), live07 11 (by decide)]
      by_cases hc : a1 < 1 ∨ 7 < a1 ∨ a0 < 0
      · have hp : putL a0 a1 = ([], 1) := by unfold putL; rw [if_pos hc]
        rw [hp]; simp [bs_toList]
      · obtain ⟨s, rfl⟩ := Int.eq_ofNat_of_zero_le (show 0 ≤ a1 by omega)
        obtain ⟨n, rfl⟩ := Int.eq_ofNat_of_zero_le (show 0 ≤ a0 by omega)
        by_cases hb : n / 256 ^ s > 0
        · have hp : putL n s = ([], 12) := by unfold putL; rw [if_neg hc, if_pos (by simpa using hb)]
          rw [hp]; simp [bs_toList]
        · have hlt : n < 256 ^ s := by
            have hp : 0 < 256 ^ s := Nat.pow_pos (by decide)
            exact (Nat.div_eq_zero_iff_lt hp).1 (Nat.eq_zero_of_not_pos (by assumption))
          rw [putL_ok (by omega) (by omega) hlt]
          simp only [if_true, bs_size, lowB_length, bs_append]
          rw [if_pos (by omega), wire_Cut_f _ _ (by simp [lowB_length]; omega), cutL_put s n m (by omega) (by omega) hlt]
          simp [bs_toList]
theorem WireBack (a0 a1 : Int) (a2 a3 : ByteArray) (h : (Lit.int .i64 a0).wf = true ∧ (Lit.int .i64 a1).wf = true ∧ a2.size ≤ 140737488351232 ∧ a3.size ≤ 140737488351232) :
    ∃ k, sheetpilelaw07_WireBack.f k a0 a1 a2 a3 = some true := wireBack_pure _ _ _ _ h.1 h.2.1 h.2.2.1 h.2.2.2
end Go.Proofs.Ytkafepjecpfoeaa.Pure
