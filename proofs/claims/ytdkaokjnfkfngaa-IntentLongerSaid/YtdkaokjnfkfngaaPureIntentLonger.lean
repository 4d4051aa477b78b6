/- Of two intents of one stripe and number the one with the longer text has the longer record, by as much; of texts of at most 1000 bytes. -/
import Derived.Test.YtdkaokjnfkfngaaPIntx9
import Derived.Test.YtdkaokjnfkfngaaPureIntBase
namespace Go.Proofs.Ytdkaokjnfkfngaa.Pure
set_option linter.unusedVariables false
set_option linter.unusedSimpArgs false
open Go.RowKit Go.Proofs.Ytdkaokjnfkfngaa.PInt Go.Proofs.Ytdkaokjnfkfngaa.PWir Go.Proofs.Ytdkaokjnfkfngaa.Given Go.Proofs.Ytdkaokjnfkfngaa.Bs Go.Proofs.Ytdkaokjnfkfngaa.WirePlain Go.Proofs.YtdkaokjnfkfngaaW.PrintWords Go.Proofs.YtdkaokjnfkfngaaW.PrintLast
theorem IntentLonger (q s : Int) (t : ByteArray) (w0 : (Lit.int .i64 q).wf = true ∧ (Lit.int .i64 s).wf = true ∧ t.size ≤ 140737488351232) (a1 : ByteArray) (w1 : a1.size ≤ 140737488351232) : ∃ k, sheetpilelaw14_IntentLonger.f k q s t a1 = some true := by
  obtain ⟨wq, ws, wt⟩ := w0
  obtain ⟨q0, q1⟩ := i64_wf wq
  obtain ⟨s0, s1⟩ := i64_wf ws
  obtain ⟨t, rfl⟩ := ex_bs t
  rw [bs_size] at wt
  obtain ⟨l, rfl⟩ := ex_bs a1
  rw [bs_size] at w1
  refine ⟨12, ?_⟩
  unfold sheetpilelaw14_IntentLonger.f
  simp only [sheetpilelaw14_IntentLonger.j0]
  rw [live14, bs_size, bs_size]
  by_cases c1 : (t.length : Int) > 1000
  · rw [if_pos c1, if_pos trivial]; rfl
  · rw [if_neg c1]
    by_cases c2 : (l.length : Int) > 1000
    · rw [if_pos (by simpa using c2)]; rfl
    · rw [if_neg (by simpa using c2), own14, bs_append, own14]
      simp only [Option.bind_some]
      rw [intent_Write_f q s t q0 q1 s0 s1 (by omega)]
      simp only [Option.bind_some]
      rw [if_pos (by omega), intent_Write_f q s (t ++ l) q0 q1 s0 s1 (by rw [List.length_append]; omega)]
      simp only [Option.bind_some]
      have hT : textL t = (lowB 2 t.length ++ t, 0) := textL_ok (by omega)
      have hT' : textL (t ++ l) = (lowB 2 (t ++ l).length ++ (t ++ l), 0) := textL_ok (by rw [List.length_append]; omega)
      have hee : (writeL q s t).2 = (writeL q s (t ++ l)).2 := by
        unfold writeL; rw [hT, hT']
        simp only [if_true]
        split
        · split <;> rfl
        · rfl
      rw [if_pos hee]
      by_cases e : (writeL q s t).2 = 0
      · rw [if_pos e]
        have e' : (writeL q s (t ++ l)).2 = 0 := by rw [← hee]; exact e
        obtain ⟨a, b, rfl, rfl, ha, hb, ht, hw⟩ := writeL_zero e
        obtain ⟨a', b', h1, h2, ha', hb', ht', hw'⟩ := writeL_zero e'
        rw [hw, hw', bs_size, bs_size, recL_length, recL_length, List.length_append]
        have hx : wrap64 (((t.length + 14 : Nat) : Int) + (l.length : Int)) = ((t.length + l.length + 14 : Nat) : Int) := by rw [wrap_id (by omega) (by omega)]; omega
        rw [hx, if_pos rfl]
      · rw [if_neg e]
end Go.Proofs.Ytdkaokjnfkfngaa.Pure
