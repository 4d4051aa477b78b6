/- A record without its end is none; of at most 1000 bytes. -/
import Derived.Test.YtdkaokjnfkfngaaPIntx8
import Derived.Test.YtdkaokjnfkfngaaPureIntBase
namespace Go.Proofs.Ytdkaokjnfkfngaa.Pure
set_option linter.unusedVariables false
set_option linter.unusedSimpArgs false
open Go.RowKit Go.Proofs.Ytdkaokjnfkfngaa.PInt Go.Proofs.Ytdkaokjnfkfngaa.PWir Go.Proofs.Ytdkaokjnfkfngaa.Given Go.Proofs.Ytdkaokjnfkfngaa.Bs Go.Proofs.Ytdkaokjnfkfngaa.WirePlain Go.Proofs.YtdkaokjnfkfngaaW.PrintWords Go.Proofs.YtdkaokjnfkfngaaW.PrintLast
theorem recL_cut {a b a' b' : Nat} {t t' : List UInt8} (ht : t.length < 65536) (ht' : t'.length < 65536)
    {n : Nat} (hn : n < (recL a b t).length) (h : (recL a b t).take n = recL a' b' t') : False := by
  have hl := congrArg List.length h
  rw [List.length_take, recL_length, recL_length] at hl
  rw [recL_length] at hn
  have hd : recL a b t = recL a' b' t' ++ (recL a b t).drop n := by rw [← h, List.take_append_drop]
  generalize (recL a b t).drop n = m at hd
  have e0 : lowB 7 a ++ (lowB 2 b ++ (lowB 2 t.length ++ t)) = lowB 7 a' ++ (lowB 2 b' ++ (lowB 2 t'.length ++ t' ++ m)) := by
    have := congrArg (List.drop 3) hd
    simpa [recL, List.append_assoc] using this
  obtain ⟨e1, e2⟩ := List.append_inj e0 (by rw [lowB_length, lowB_length])
  obtain ⟨e3, e4⟩ := List.append_inj e2 (by rw [lowB_length, lowB_length])
  have e5 : takeL (lowB 2 t.length ++ t) = (t, [], 0) := by have := takeL_text t [] ht; rwa [List.append_nil] at this
  rw [e4, takeL_text t' m ht'] at e5
  have : t' = t := congrArg (fun p => p.1) e5
  subst this
  omega
theorem IntentCut (q s : Int) (t : ByteArray) (w0 : (Lit.int .i64 q).wf = true ∧ (Lit.int .i64 s).wf = true ∧ t.size ≤ 140737488351232) (n : Int) (w1 : (Lit.int .i64 n).wf = true) : ∃ k, sheetpilelaw14_IntentCut.f k q s t n = some true := by
  obtain ⟨wq, ws, wt⟩ := w0
  obtain ⟨q0, q1⟩ := i64_wf wq
  obtain ⟨s0, s1⟩ := i64_wf ws
  obtain ⟨t, rfl⟩ := ex_bs t
  rw [bs_size] at wt
  refine ⟨12, ?_⟩
  unfold sheetpilelaw14_IntentCut.f
  simp only [sheetpilelaw14_IntentCut.j0]
  rw [live14, bs_size]
  by_cases c1 : (t.length : Int) > 1000
  · rw [if_pos c1]; rfl
  · rw [if_neg c1, own14]
    simp only [Option.bind_some]
    rw [intent_Write_f q s t q0 q1 s0 s1 (by omega)]
    simp only [Option.bind_some]
    by_cases e : (writeL q s t).2 = 0
    · rw [if_pos e]
      obtain ⟨a, b, rfl, rfl, ha, hb, ht, hw⟩ := writeL_zero e
      rw [hw]
      simp only [bs_size]
      by_cases hn : n < 0
      · rw [if_pos hn, if_pos trivial]
      · rw [if_neg hn]
        by_cases hm : n ≥ ((recL a b t).length : Int)
        · rw [if_pos (by simpa using hm)]
        · rw [if_neg (by simpa using hm)]
          obtain ⟨m, rfl⟩ := Int.eq_ofNat_of_zero_le (show 0 ≤ n by omega)
          rw [if_pos (by omega), if_pos (by omega), Int.toNat_natCast, bs_extract_zero]
          have hlen : ((recL a b t).take m).length ≤ 281474976710656 := by
            rw [List.length_take, recL_length]; omega
          rw [intent_Read_f _ hlen, Option.bind_some]
          have h5 : readL ((recL a b t).take m) = (0, 0, [], 5) := by
            refine (readL_err _).resolve_left fun hz => ?_
            obtain ⟨a', b', t', _, _, ht', he⟩ := readL_zero hz
            exact recL_cut ht ht' (by omega) he
          rw [h5]; simp [bs_toList]
    · rw [if_neg e, if_pos trivial]
end Go.Proofs.Ytdkaokjnfkfngaa.Pure
