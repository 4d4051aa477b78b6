/- Records of two intents are alike just if these are; one is never the begin of another one; of at most 1000 bytes each. -/
import Derived.Test.YtdkaokjnfkfngaaPIntx7
import Derived.Test.YtdkaokjnfkfngaaPureIntBase
namespace Go.Proofs.Ytdkaokjnfkfngaa.Pure
set_option linter.unusedVariables false
set_option linter.unusedSimpArgs false
open Go.RowKit Go.Proofs.Ytdkaokjnfkfngaa.PInt Go.Proofs.Ytdkaokjnfkfngaa.PWir Go.Proofs.Ytdkaokjnfkfngaa.Given Go.Proofs.Ytdkaokjnfkfngaa.Bs Go.Proofs.Ytdkaokjnfkfngaa.WirePlain Go.Proofs.YtdkaokjnfkfngaaW.PrintWords Go.Proofs.YtdkaokjnfkfngaaW.PrintLast
theorem recL_begin {a b a' b' : Nat} {t t' : List UInt8} (ha : a < 256 ^ 7) (hb : b < 256 ^ 2) (ht : t.length < 65536) (ha' : a' < 256 ^ 7) (hb' : b' < 256 ^ 2) (ht' : t'.length < 65536)
    (h : (recL a' b' t').take (recL a b t).length = recL a b t) : a = a' ∧ b = b' ∧ t = t' := by
  have hd : recL a' b' t' = recL a b t ++ (recL a' b' t').drop (recL a b t).length := by
    conv => lhs; rw [← List.take_append_drop (recL a b t).length (recL a' b' t'), h]
  generalize (recL a' b' t').drop (recL a b t).length = m at hd
  have e0 : lowB 7 a' ++ (lowB 2 b' ++ (lowB 2 t'.length ++ t')) = lowB 7 a ++ (lowB 2 b ++ (lowB 2 t.length ++ t ++ m)) := by
    have := congrArg (List.drop 3) hd
    simpa [recL, List.append_assoc] using this
  obtain ⟨e1, e2⟩ := List.append_inj e0 (by rw [lowB_length, lowB_length])
  obtain ⟨e3, e4⟩ := List.append_inj e2 (by rw [lowB_length, lowB_length])
  have e5 : takeL (lowB 2 t'.length ++ t') = (t', [], 0) := by have := takeL_text t' [] ht'; rwa [List.append_nil] at this
  rw [e4, takeL_text t m ht] at e5
  exact ⟨(lowB_inj ha' ha e1).symm, (lowB_inj hb' hb e3).symm, congrArg (fun p => p.1) e5⟩
theorem IntentApart (q s : Int) (t : ByteArray) (w0 : (Lit.int .i64 q).wf = true ∧ (Lit.int .i64 s).wf = true ∧ t.size ≤ 140737488351232) (q' s' : Int) (t' : ByteArray) (w1 : (Lit.int .i64 q').wf = true ∧ (Lit.int .i64 s').wf = true ∧ t'.size ≤ 140737488351232) : ∃ k, sheetpilelaw14_IntentApart.f k q s t q' s' t' = some true := by
  obtain ⟨wq, ws, wt⟩ := w0
  obtain ⟨q0, q1⟩ := i64_wf wq
  obtain ⟨s0, s1⟩ := i64_wf ws
  obtain ⟨t, rfl⟩ := ex_bs t
  rw [bs_size] at wt
  obtain ⟨wq', ws', wt'⟩ := w1
  obtain ⟨q0', q1'⟩ := i64_wf wq'
  obtain ⟨s0', s1'⟩ := i64_wf ws'
  obtain ⟨t', rfl⟩ := ex_bs t'
  rw [bs_size] at wt'
  refine ⟨12, ?_⟩
  unfold sheetpilelaw14_IntentApart.f
  simp only [sheetpilelaw14_IntentApart.j0]
  rw [live14, bs_size, bs_size]
  by_cases c1 : (t.length : Int) > 1000
  · rw [if_pos c1, if_pos trivial]; rfl
  · rw [if_neg c1]
    by_cases c2 : (t'.length : Int) > 1000
    · rw [if_pos (by simpa using c2)]; rfl
    · rw [if_neg (by simpa using c2), own14, own14]
      simp only [Option.bind_some]
      rw [intent_Write_f q s t q0 q1 s0 s1 (by omega), intent_Write_f q' s' t' q0' q1' s0' s1' (by omega)]
      simp only [Option.bind_some, sheetpilelaw14_IntentApart.j1]
      rw [live14]
      by_cases e : (writeL q s t).2 = 0
      · rw [if_pos e]
        by_cases e' : (writeL q' s' t').2 = 0
        · rw [if_neg (by simpa using e')]
          obtain ⟨a, b, rfl, rfl, ha, hb, ht, hw⟩ := writeL_zero e
          obtain ⟨a', b', rfl, rfl, ha', hb', ht', hw'⟩ := writeL_zero e'
          rw [hw, hw']
          simp only [bs_size]
          by_cases hle : ((recL a b t).length : Int) ≤ ((recL a' b' t').length : Int)
          · rw [if_pos hle, if_pos (by omega), Int.toNat_natCast, bs_extract_zero]
            simp only [bs_toList]
            have key : ((recL a' b' t').take (recL a b t).length = recL a b t) ↔ (a = a' ∧ b = b' ∧ t = t') := by
              refine ⟨recL_begin ha hb ht ha' hb' ht', ?_⟩
              rintro ⟨rfl, rfl, rfl⟩
              rw [List.take_length]
            rw [if_pos ?_]; · rfl
            by_cases hk : a = a' ∧ b = b' ∧ t = t'
            · obtain ⟨rfl, rfl, rfl⟩ := hk; simp
            · have hn := fun hh => hk (key.1 hh)
              rw [beq_eq_false_iff_ne.2 hn]
              have : ((a : Int) == (a' : Int) && ((b : Int) == (b' : Int) && t == t')) = false := by
                rw [Bool.eq_false_iff]
                intro hh
                simp at hh
                exact hk ⟨by omega, by omega, hh.2.2⟩
              rw [this]; rfl
          · rw [if_neg hle, if_pos ?_]; · rfl
            have : ((a : Int) == (a' : Int) && ((b : Int) == (b' : Int) && t == t')) = false := by
              rw [Bool.eq_false_iff]
              intro hh
              simp at hh
              rw [hh.2.2] at hle
              simp [recL_length] at hle
            simp only [bs_toList]
            rw [this]; rfl
        · rw [if_pos (by simpa using e')]; rfl
      · rw [if_neg e, if_pos trivial]; rfl
end Go.Proofs.Ytdkaokjnfkfngaa.Pure
