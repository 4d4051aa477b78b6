/- An intent of a text that goes into a stripe goes into a sector, with all that is beside it; of layouts that may be. -/
import Derived.Test.YtdkaokjnfkfngaaPIntx8
import Derived.Test.YtdkaokjnfkfngaaPIntx7
import Derived.Test.YtdkaokjnfkfngaaPureIntBase
namespace Go.Proofs.Ytdkaokjnfkfngaa.Pure
set_option linter.unusedVariables false
set_option linter.unusedSimpArgs false
open Go.RowKit Go.Proofs.Ytdkaokjnfkfngaa.PInt Go.Proofs.Ytdkaokjnfkfngaa.PWir Go.Proofs.Ytdkaokjnfkfngaa.Given Go.Proofs.Ytdkaokjnfkfngaa.Bs Go.Proofs.Ytdkaokjnfkfngaa.WirePlain Go.Proofs.YtdkaokjnfkfngaaW.PrintWords Go.Proofs.YtdkaokjnfkfngaaW.PrintLast
theorem check12 {c0 c1 c2 c3 c4 : Int} (h0 : -9223372036854775808 ≤ c0 ∧ c0 < 9223372036854775808) (h1 : -9223372036854775808 ≤ c1 ∧ c1 < 9223372036854775808) :
    (∃ e, sheetpileref12_Check.f c0 c1 c2 c3 c4 = some e ∧ e ≠ 0) ∨ (sheetpileref12_Check.f c0 c1 c2 c3 c4 = some 0 ∧ 1 ≤ c0 ∧ c0 ≤ 255 ∧ 8 ≤ c2 ∧ c2 ≤ 1024 ∧ c3 ≤ 1000 ∧ 8 ≤ c0 * c2 ∧ c0 * c2 ≤ 4000) := by
  unfold sheetpileref12_Check.f sheetpileref04_May.f
  by_cases a1 : c0 ≥ 1
  · by_cases a2 : c1 ≥ 0
    · by_cases a3 : c0 ≤ 255
      · by_cases a4 : c1 ≤ 255
        · rw [if_pos a1, if_pos a2, if_pos a3, if_pos a4, Option.bind_some]
          by_cases a5 : wrap64 (c0 + c1) ≤ 255
          · rw [if_pos (by simpa using a5)]
            by_cases b1 : c1 = 0
            · rw [if_pos b1]; exact .inl ⟨1, rfl, by decide⟩
            · rw [if_neg b1]
              by_cases b2 : c2 < 8
              · rw [if_pos b2]; exact .inl ⟨1, rfl, by decide⟩
              · rw [if_neg b2]
                by_cases b3 : c2 > 1024
                · rw [if_pos b3]; exact .inl ⟨1, rfl, by decide⟩
                · rw [if_neg b3]
                  by_cases b4 : c3 < 1
                  · rw [if_pos b4]; exact .inl ⟨1, rfl, by decide⟩
                  · rw [if_neg b4]
                    by_cases b5 : c3 > 1000
                    · rw [if_pos b5]; exact .inl ⟨1, rfl, by decide⟩
                    · rw [if_neg b5]
                      by_cases b6 : c4 < 1
                      · rw [if_pos b6]; exact .inl ⟨1, rfl, by decide⟩
                      · rw [if_neg b6]
                        by_cases b7 : c4 > 16
                        · rw [if_pos b7]; exact .inl ⟨1, rfl, by decide⟩
                        · rw [if_neg b7]
                          have m1 : c0 * c2 ≤ 255 * 1024 := Int.mul_le_mul a3 (by omega) (by omega) (by omega)
                          have m2 : 1 * 8 ≤ c0 * c2 := Int.mul_le_mul a1 (by omega) (by omega) (by omega)
                          rw [wrap_id (a := c0 * c2) (by omega) (by omega)]
                          by_cases b8 : c0 * c2 > 4000
                          · rw [if_pos b8]; exact .inl ⟨1, rfl, by decide⟩
                          · rw [if_neg b8]; exact .inr ⟨rfl, a1, a3, by omega, by omega, by omega, by omega, by omega⟩
          · rw [if_neg (by simpa using a5)]; exact .inl ⟨1, rfl, by decide⟩
        · rw [if_pos a1, if_pos a2, if_pos a3, if_neg a4]; exact .inl ⟨1, rfl, by decide⟩
      · rw [if_pos a1, if_pos a2, if_neg a3]; exact .inl ⟨1, rfl, by decide⟩
    · rw [if_pos a1, if_neg a2]; exact .inl ⟨1, rfl, by decide⟩
  · rw [if_neg a1]; exact .inl ⟨1, rfl, by decide⟩
theorem IntentGoes (c0 c1 c2 c3 c4 q s : Int) (t : ByteArray) (w0 : ((Lit.int .i64 c0).wf = true ∧ (Lit.int .i64 c1).wf = true ∧ (Lit.int .i64 c2).wf = true ∧ (Lit.int .i64 c3).wf = true ∧ (Lit.int .i64 c4).wf = true) ∧ (Lit.int .i64 q).wf = true ∧ (Lit.int .i64 s).wf = true ∧ t.size ≤ 140737488351232) : ∃ k, sheetpilelaw14_IntentGoes.f k c0 c1 c2 c3 c4 q s t = some true := by
  obtain ⟨⟨wc0, wc1, _, _, _⟩, wq, ws, wt⟩ := w0
  obtain ⟨t, rfl⟩ := ex_bs t
  rw [bs_size] at wt
  refine ⟨12, ?_⟩
  unfold sheetpilelaw14_IntentGoes.f sheetpileref12_Capacity.f sheetpileref12_of.f
  simp only [sheetpilelaw14_IntentGoes.j0]
  unfold sheetpileref12_Size.f sheetpileref12_of.f
  rw [live14, bs_size]
  rcases check12 (c2 := c2) (c3 := c3) (c4 := c4) (i64_wf wc0) (i64_wf wc1) with ⟨e, hc, he⟩ | ⟨hc, k1, k2, k3, k4, k5, k6, k7⟩
  · rw [hc]; simp only [Option.bind_some]; rw [if_neg he]; rfl
  · rw [hc]
    simp only [Option.bind_some, if_true]
    rw [wrap_id (a := c0 * c2) (by omega) (by omega), wrap_id (a := c0 * c2 - 4) (by omega) (by omega), wrap_id (a := c0 * c2 + 16) (by omega) (by omega), wrap_id (a := c0 * c2 + 16 + 26) (by omega) (by omega)]
    by_cases d1 : q < 0
    · rw [if_pos d1]
    · rw [if_neg d1]
      by_cases d2 : q ≥ 72057594037927936
      · rw [if_pos d2]
      · rw [if_neg d2]
        by_cases d3 : s < 0
        · rw [if_pos d3]
        · rw [if_neg d3]
          by_cases d4 : s ≥ c3
          · rw [if_pos d4]
          · rw [if_neg d4]
            by_cases d5 : (t.length : Int) > c0 * c2 - 4
            · rw [if_pos (by simpa using d5)]
            · rw [if_neg (by simpa using d5)]
              obtain ⟨a, rfl⟩ := Int.eq_ofNat_of_zero_le (show 0 ≤ q by omega)
              obtain ⟨b, rfl⟩ := Int.eq_ofNat_of_zero_le (show 0 ≤ s by omega)
              have h7 : (256 : Nat) ^ 7 = 72057594037927936 := by decide
              have h2 : (256 : Nat) ^ 2 = 65536 := by decide
              rw [intent_Write_f a b t (by omega) (by omega) (by omega) (by omega) (by omega), Option.bind_some, writeL_ok (by omega) (by omega) (by omega)]
              simp only [if_true, bs_size, recL_length]
              rw [wrap_id (by omega) (by omega), if_pos (by omega)]
end Go.Proofs.Ytdkaokjnfkfngaa.Pure
