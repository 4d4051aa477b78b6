/- A text behind a row of runes is one with it just if it is one. -/
import Derived.Test.YtdkaokjnfkfngaaPKeyx5
import Derived.Test.YtdkaokjnfkfngaaPureKeyJoins
namespace Go.Proofs.Ytdkaokjnfkfngaa.Pure
set_option linter.unusedVariables false
set_option linter.unusedSimpArgs false
open Go.RowKit Go.Proofs.Ytdkaokjnfkfngaa.PKey Go.Proofs.Ytdkaokjnfkfngaa.Given Go.Proofs.Ytdkaokjnfkfngaa.Bs Go.Proofs.Ytdkaokjnfkfngaa.KeyPlain Go.Proofs.Ytdkaokjnfkfngaa.RunesPlain Go.Proofs.YtdkaokjnfkfngaaW.PrintWords Go.Proofs.YtdkaokjnfkfngaaW.PrintLast
theorem KeyParts : sheetpilelaw08_KeyParts.Pure := by
  intro a0 a1 h0 h1
  obtain ⟨a, rfl⟩ := ex_bs a0
  obtain ⟨b, rfl⟩ := ex_bs a1
  refine ⟨80, ?_⟩
  unfold sheetpilelaw08_KeyParts.f
  rw [bs_size, bs_size]
  have done : sheetpilelaw08_KeyParts.j0 80 (bs a) (bs b) true = some true := by
    rw [sheetpilelaw08_KeyParts.j0, if_pos rfl, live08 79 (by decide)]; rfl
  by_cases ha : (a.length : Int) > 1000
  · rw [if_pos ha, done]
  · rw [if_neg ha]
    by_cases hb : (b.length : Int) > 1000
    · have hd : decide ((b.length : Int) > 1000) = true := decide_eq_true hb
      rw [hd, done]
    · have hd : decide ((b.length : Int) > 1000) = false := decide_eq_false hb
      rw [hd, sheetpilelaw08_KeyParts.j0, if_neg (by decide), bs_size, bs_size, bs_append, key_Count_f a (by omega), key_Count_f b (by omega), key_Count_f _ (by rw [List.length_append]; omega), live08 79 (by decide)]
      simp only [Option.bind_some]
      rw [if_pos (by omega)]
      cases hra : runesL a with
      | none => rw [runesR_none hra]; rfl
      | some xs =>
        rw [runesR_some hra]
        simp only [if_true]
        have hab := runesL_append a b xs hra
        cases hrb : runesL b with
        | none => rw [hrb] at hab; rw [runesR_none hrb, runesR_none (l := a ++ b) (by rw [hab]; rfl)]; rfl
        | some ys => rw [hrb] at hab; rw [runesR_some hrb, runesR_some (l := a ++ b) (xs := xs ++ ys) (by rw [hab]; rfl)]; rfl
end Go.Proofs.Ytdkaokjnfkfngaa.Pure
