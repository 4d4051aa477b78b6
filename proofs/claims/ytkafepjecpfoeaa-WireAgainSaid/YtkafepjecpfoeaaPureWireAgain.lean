/- What is cut, and put, is what it was cut from; what is taken, and made a text, likewise; of at most 1000 bytes. -/
import Derived.Test.YtkafepjecpfoeaaPWirex3
import Derived.Test.YtkafepjecpfoeaaPureLive07
namespace Go.Proofs.Ytkafepjecpfoeaa.Pure
set_option linter.unusedVariables false
set_option linter.unusedSimpArgs false
open Go.RowKit Go.Proofs.Ytkafepjecpfoeaa.PWire Go.Proofs.Ytkafepjecpfoeaa.Given Go.Proofs.Ytkafepjecpfoeaa.Bs Go.Proofs.Ytkafepjecpfoeaa.WirePlain Go.Proofs.YtkafepjecpfoeaaW.PrintWords Go.Proofs.YtkafepjecpfoeaaW.PrintLast
theorem WireAgain : sheetpilelaw07_WireAgain.Pure := by
  intro a0 a1 h0 h1
  obtain ⟨l, rfl⟩ := ex_bs a0
  rw [bs_size] at h0
  obtain ⟨b0, b1⟩ := i64_wf h1
  refine ⟨11, ?_⟩
  unfold sheetpilelaw07_WireAgain.f
  rw [live07 11 (by decide), bs_size]
  by_cases hs : (l.length : Int) > 1000
  · rw [if_pos hs]; rfl
  · rw [if_neg hs]
    have tail : sheetpilelaw07_WireAgain.j0 11 (bs l) = some true := by
      simp only [sheetpilelaw07_WireAgain.j0]
      rw [live07 10 (by decide), wire_Take_f _ (by omega)]
      simp only [Option.bind_some]
      by_cases e : (takeL l).2.2 = 0
      · rw [if_pos e]
        obtain ⟨hb, hlt⟩ := takeL_back (l := l) (a := (takeL l).1) (b := (takeL l).2.1) (by rw [← e])
        rw [wire_Text_f 10 (by decide) _ (by omega)]
        simp only [Option.bind_some, bs_size, bs_append, bs_toList]
        rw [textL_ok hlt]
        have hll := congrArg List.length hb
        simp only [List.length_append] at hll
        simp only [List.length_append]
        rw [if_pos (by omega), ← hb, if_pos rfl, if_pos trivial]
      · rw [if_neg e]
    rw [wire_Cut_f _ _ (by omega)]
    simp only [Option.bind_some]
    by_cases e : (cutL l a1).2.2 = 0
    · rw [if_pos e]
      have hr : ∃ s : Nat, a1 = s ∧ 1 ≤ s ∧ s ≤ 7 := by
        unfold cutL at e
        split at e
        · simp at e
        · exact ⟨a1.toNat, by omega, by omega, by omega⟩
      obtain ⟨s, rfl, hs1, hs7⟩ := hr
      obtain ⟨m, hm, hlt, hb⟩ := cutL_back (l := l) (r := (cutL l s).2.1) (n := (cutL l s).1) hs1 hs7 (by rw [← e])
      have hp7 := pow_le7 hs7
      rw [hm, wire_Put_f 11 (by decide) _ _ (by omega) (by omega), putL_ok hs1 hs7 hlt]
      simp only [Option.bind_some, bs_size, bs_append, bs_toList]
      have hll := congrArg List.length hb
      simp only [List.length_append] at hll
      rw [if_pos (by omega), ← hb, if_pos rfl, if_pos trivial, tail]
    · rw [if_neg e, tail]
end Go.Proofs.Ytkafepjecpfoeaa.Pure
