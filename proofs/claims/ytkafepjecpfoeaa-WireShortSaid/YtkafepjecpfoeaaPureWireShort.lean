/- Of bytes that a number or a text needs, fewer are cut; of at most 1000 bytes. -/
import Derived.Test.YtkafepjecpfoeaaPWirex4
import Derived.Test.YtkafepjecpfoeaaPureLive07
namespace Go.Proofs.Ytkafepjecpfoeaa.Pure
set_option linter.unusedVariables false
set_option linter.unusedSimpArgs false
open Go.RowKit Go.Proofs.Ytkafepjecpfoeaa.PWire Go.Proofs.Ytkafepjecpfoeaa.Given Go.Proofs.Ytkafepjecpfoeaa.Bs Go.Proofs.Ytkafepjecpfoeaa.WirePlain Go.Proofs.YtkafepjecpfoeaaW.PrintWords Go.Proofs.YtkafepjecpfoeaaW.PrintLast
theorem WireShort : sheetpilelaw07_WireShort.Pure := by
  intro a0 a1 a2 h0 h1 h2
  obtain ⟨l, rfl⟩ := ex_bs a0
  rw [bs_size] at h0
  obtain ⟨b0, b1⟩ := i64_wf h1
  obtain ⟨c0, c1⟩ := i64_wf h2
  refine ⟨14, ?_⟩
  unfold sheetpilelaw07_WireShort.f
  rw [bs_size]
  have done : sheetpilelaw07_WireShort.j0 14 (bs l) a1 a2 true = some true := by
    simp only [sheetpilelaw07_WireShort.j0]; rw [live07 13 (by decide)]; rfl
  by_cases hs : (l.length : Int) > 1000
  · rw [if_pos hs, done]
  · rw [if_neg hs]
    by_cases hn : a2 < 0
    · have hd : decide (a2 < 0) = true := decide_eq_true hn
      rw [hd, done]
    · have hd : decide (a2 < 0) = false := decide_eq_false hn
      rw [hd]
      obtain ⟨n, rfl⟩ := Int.eq_ofNat_of_zero_le (show 0 ≤ a2 by omega)
      simp only [sheetpilelaw07_WireShort.j0]
      rw [if_neg (by decide), wire_Text_f 13 (by decide) _ (by omega), textL_ok (by omega)]
      simp only [Option.bind_some, bs_size, if_true]
      have hl2 := lowB_length 2 l.length
      have done1 : sheetpilelaw07_WireShort.j1 13 a1 n (bs (lowB 2 l.length ++ l)) true = some true := by
        simp only [sheetpilelaw07_WireShort.j1]; rw [live07 12 (by decide)]; rfl
      have hlen : (lowB 2 l.length ++ l).length = 2 + l.length := by rw [List.length_append, hl2]
      rw [hlen]
      by_cases hge : (n : Int) ≥ ((2 + l.length : Nat) : Int)
      · have hd : decide ((n : Int) ≥ ((2 + l.length : Nat) : Int)) = true := decide_eq_true hge
        rw [hd, done1]
      · have hd : decide ((n : Int) ≥ ((2 + l.length : Nat) : Int)) = false := decide_eq_false hge
        rw [hd]
        simp only [sheetpilelaw07_WireShort.j1]
        rw [if_neg (by decide), if_pos (by omega), bs_size, hlen, if_pos (by omega), Int.toNat_natCast, bs_extract_zero]
        have htl : ((lowB 2 l.length ++ l).take n).length = n := by rw [List.length_take, hlen]; omega
        obtain ⟨t, ht⟩ : ∃ t, t = (lowB 2 l.length ++ l).take n := ⟨_, rfl⟩
        have htk : (takeL t).2.2 = 4 := by
          unfold takeL
          by_cases h2 : t.length < 2
          · rw [if_pos h2]
          · rw [if_neg h2, if_pos ?_]
            have e2 : t.take 2 = lowB 2 l.length := by
              rw [ht, List.take_take, Nat.min_eq_left (by rw [ht, htl] at h2; omega), List.take_left' hl2]
            rw [e2, lowN_lowB_lt (by have : (256 : Nat) ^ 2 = 65536 := by decide
                                     omega), ht, htl]
            rw [ht, htl] at h2; omega
        rw [← ht] at htl ⊢
        rw [wire_Take_f t (by omega), wire_Cut_f t a1 (by omega)]
        simp only [Option.bind_some, htk]
        have j2 : ∀ c : Bool, c = (decide (a1 < 1) || decide (a1 > 7)) → sheetpilelaw07_WireShort.j2 12 a1 n 4 (cutL t a1).1 (bs (cutL t a1).2.1) (cutL t a1).2.2 c = some true := by
          intro c hc
          simp only [sheetpilelaw07_WireShort.j2]
          rw [live07 11 (by decide)]
          by_cases ha : a1 < 1 ∨ 7 < a1
          · have hct : c = true := by rw [hc]; simpa using ha
            have hcut : cutL t a1 = (0, [], 1) := by unfold cutL; rw [if_pos ha]
            rw [hct, hcut]; simp [bs_toList]
          · have hct : c = false := by rw [hc]; simp; omega
            rw [hct]
            obtain ⟨s, rfl⟩ := Int.eq_ofNat_of_zero_le (show 0 ≤ a1 by omega)
            by_cases hns : n < s
            · have hcut : cutL t s = (0, [], 4) := by unfold cutL; rw [if_neg ha, if_pos (by omega)]
              have h5 : decide ((n : Int) ≥ (s : Int)) = false := by simp; omega
              have h6 : mx (wrap64 ((n : Int) - s)) 0 = 0 := by rw [wrap_id (by omega) (by omega)]; unfold mx; omega
              rw [hcut, h5, h6]; simp [bs_size]
            · have hcut := cutL_ok (l := t) (s := s) (by omega) (by omega) (by omega)
              have h5 : decide ((n : Int) ≥ (s : Int)) = true := by simp; omega
              have h6 : mx (wrap64 ((n : Int) - s)) 0 = ((n - s : Nat) : Int) := by rw [wrap_id (by omega) (by omega)]; unfold mx; omega
              rw [hcut, h5, h6]; simp [bs_size, htl]
        by_cases ha1 : a1 < 1
        · rw [if_pos ha1]; exact j2 true (by simp [ha1])
        · rw [if_neg ha1]; exact j2 _ (by simp [ha1])
end Go.Proofs.Ytkafepjecpfoeaa.Pure
