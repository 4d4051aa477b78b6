/- Numbers of one size have bytes of their own. -/
import Derived.Test.YtkafepjecpfoeaaPWirex4
import Derived.Test.YtkafepjecpfoeaaPureLive07
namespace Go.Proofs.Ytkafepjecpfoeaa.Pure
set_option linter.unusedVariables false
set_option linter.unusedSimpArgs false
open Go.RowKit Go.Proofs.Ytkafepjecpfoeaa.PWire Go.Proofs.Ytkafepjecpfoeaa.Given Go.Proofs.Ytkafepjecpfoeaa.Bs Go.Proofs.Ytkafepjecpfoeaa.WirePlain Go.Proofs.YtkafepjecpfoeaaW.PrintWords Go.Proofs.YtkafepjecpfoeaaW.PrintLast
theorem WireOrder : sheetpilelaw07_WireOrder.Pure := by
  intro a0 a1 a2 h0 h1 h2
  obtain ⟨b0, b1⟩ := i64_wf h0
  obtain ⟨c0, c1⟩ := i64_wf h1
  refine ⟨11, ?_⟩
  unfold sheetpilelaw07_WireOrder.f
  simp only [sheetpilelaw07_WireOrder.j0]
  rw [live07 10 (by decide), wire_Put_f 11 (by decide) _ _ b0 b1, wire_Put_f 11 (by decide) _ _ c0 c1]
  simp only [Option.bind_some, bs_toList, bs_size]
  have key : ∀ n size : Int, (putL n size).2 = 0 → ∃ s m : Nat, size = s ∧ n = m ∧ 1 ≤ s ∧ m < 256 ^ s ∧ (putL n size).1 = lowB s m := by
    intro n size h
    unfold putL at h ⊢
    split at h
    · simp at h
    · rename_i hc
      split at h
      · simp at h
      · rename_i hd
        rw [if_neg hc, if_neg hd]
        refine ⟨size.toNat, n.toNat, by omega, by omega, by omega, ?_, rfl⟩
        have hp : 0 < 256 ^ size.toNat := Nat.pow_pos (by decide)
        exact (Nat.div_eq_zero_iff_lt hp).1 (Nat.eq_zero_of_not_pos (by assumption))
  by_cases e0 : (putL a0 a2).2 = 0
  · rw [if_pos e0]
    by_cases e1 : (putL a1 a2).2 = 0
    · rw [if_neg (by simpa using e1)]
      obtain ⟨s, n, rfl, rfl, hs, hn, e2⟩ := key _ _ e0
      obtain ⟨s', m, hs', rfl, _, hm, e3⟩ := key _ _ e1
      obtain rfl : s' = s := by omega
      rw [e2, e3, lowB_length, lowB_length, if_pos ?_, if_pos rfl]
      by_cases hnm : n = m
      · subst hnm; simp
      · have h3 : ((n : Int) == (m : Int)) = false := by simp; omega
        have h4 : (lowB s' n == lowB s' m) = false := by simp; exact fun h => hnm (lowB_inj hn hm h)
        rw [h3, h4]; rfl
    · rw [if_pos (by simpa using e1)]
  · rw [if_neg e0, if_pos trivial]
end Go.Proofs.Ytkafepjecpfoeaa.Pure
