/- What is written is read as it was, and what is read is written as it was; a record has 14 bytes more than its text; of at most 1000 bytes. -/
import Derived.Test.YtdkaokjnfkfngaaPIntx6
import Derived.Test.YtdkaokjnfkfngaaPureIntBase
namespace Go.Proofs.Ytdkaokjnfkfngaa.Pure
set_option linter.unusedVariables false
set_option linter.unusedSimpArgs false
open Go.RowKit Go.Proofs.Ytdkaokjnfkfngaa.PInt Go.Proofs.Ytdkaokjnfkfngaa.PWir Go.Proofs.Ytdkaokjnfkfngaa.Given Go.Proofs.Ytdkaokjnfkfngaa.Bs Go.Proofs.Ytdkaokjnfkfngaa.WirePlain Go.Proofs.YtdkaokjnfkfngaaW.PrintWords Go.Proofs.YtdkaokjnfkfngaaW.PrintLast
theorem intentBack_j1 (k : Nat) (l : List UInt8) (hl : l.length ≤ 1000) : sheetpilelaw14_IntentBack.j1 (k + 1) (bs l) = some true := by
  simp only [sheetpilelaw14_IntentBack.j1]
  rw [intent_Read_f l (by omega), Option.bind_some, live14]
  rcases readL_err l with h0 | h5
  · obtain ⟨a, b, t, ha, hb, ht, rfl⟩ := readL_zero h0
    rw [readL_rec ha hb ht]
    rw [recL_length] at hl
    have h7 : (256 : Nat) ^ 7 = 72057594037927936 := by decide
    have h2 : (256 : Nat) ^ 2 = 65536 := by decide
    simp only [if_true]
    rw [intent_Write_f a b t (by omega) (by omega) (by omega) (by omega) (by omega), writeL_ok ha hb ht]
    simp
  · rw [h5]; simp [bs_toList]
theorem IntentBack (q s : Int) (t : ByteArray) (w0 : (Lit.int .i64 q).wf = true ∧ (Lit.int .i64 s).wf = true ∧ t.size ≤ 140737488351232) (a1 : ByteArray) (w1 : a1.size ≤ 140737488351232) : ∃ k, sheetpilelaw14_IntentBack.f k q s t a1 = some true := by
  obtain ⟨wq, ws, wt⟩ := w0
  obtain ⟨q0, q1⟩ := i64_wf wq
  obtain ⟨s0, s1⟩ := i64_wf ws
  obtain ⟨t, rfl⟩ := ex_bs t
  rw [bs_size] at wt
  obtain ⟨l, rfl⟩ := ex_bs a1
  rw [bs_size] at w1
  refine ⟨12, ?_⟩
  unfold sheetpilelaw14_IntentBack.f
  simp only [sheetpilelaw14_IntentBack.j0]
  rw [live14, bs_size, bs_size]
  by_cases c1 : (t.length : Int) > 1000
  · rw [if_pos c1, if_pos trivial]; rfl
  · rw [if_neg c1]
    by_cases c2 : (l.length : Int) > 1000
    · rw [if_pos (by simpa using c2)]; rfl
    · rw [if_neg (by simpa using c2), own14, Option.bind_some]
      simp only []
      rw [intent_Write_f q s t q0 q1 s0 s1 (by omega), Option.bind_some]
      have hj := intentBack_j1 10 l (by omega)
      by_cases e : (writeL q s t).2 = 0
      · obtain ⟨a, b, rfl, rfl, ha, hb, ht, hw⟩ := writeL_zero e
        rw [hw]
        simp only [if_true]
        have hr := readL_rec ha hb ht
        rw [intent_Read_f _ (by rw [recL_length]; omega), hr, Option.bind_some]
        simp only [told14, Option.bind_some, bs_size, recL_length]
        rw [hj]
        have hx : wrap64 ((t.length : Int) + 14) = ((t.length + 14 : Nat) : Int) := by rw [wrap_id (by omega) (by omega)]; omega
        rw [hx]
        simp
      · rw [if_neg e, hj]
end Go.Proofs.Ytdkaokjnfkfngaa.Pure
