/- What key's printed functions answer, in lists of bytes: texts of at most 1000000 bytes; and the document's answers that the laws name. -/
import Derived.Test.YtdkaokjnfkfngaaPKeyx1
import Derived.Test.YtdkaokjnfkfngaaBs
import Derived.Test.YtdkaokjnfkfngaaKeyPlain
import Derived.Test.YtdkaokjnfkfngaaRunesPlain
namespace Go.Proofs.Ytdkaokjnfkfngaa.Pure
set_option linter.unusedVariables false
set_option linter.unusedSimpArgs false
open Go.RowKit Go.Proofs.Ytdkaokjnfkfngaa.PKey Go.Proofs.Ytdkaokjnfkfngaa.Given Go.Proofs.Ytdkaokjnfkfngaa.Bs Go.Proofs.Ytdkaokjnfkfngaa.KeyPlain Go.Proofs.Ytdkaokjnfkfngaa.RunesPlain Go.Proofs.YtdkaokjnfkfngaaW.PrintWords Go.Proofs.YtdkaokjnfkfngaaW.PrintLast
theorem key_Quote_f (l : List UInt8) (h : l.length ≤ 10000000) : key_Quote.f (bs l) = some (bs (quoteL l)) := by
  unfold key_Quote.f; rw [bs_size, if_pos h, bs_data]
theorem key_Unquote_f (l : List UInt8) (h : l.length ≤ 1000000) : key_Unquote.f (bs l) = some (bs (unqF l).1, (unqF l).2) := by
  unfold key_Unquote.f; rw [bs_size, if_pos h, bs_data]
theorem key_runes_f (l : List UInt8) (h : l.length ≤ 1000000) : key_runes.f (bs l) = some (runesR l) := by
  unfold key_runes.f; rw [bs_size, if_pos h, bs_data]
theorem key_Count_f (l : List UInt8) (h : l.length ≤ 1000000) : key_Count.f (bs l) = some (((runesR l).1.length : Int), (runesR l).2) := by
  unfold key_Count.f; rw [key_runes_f l h]; rfl
def badR (x : Int) : Bool := decide (x < 32) || x == 127
def checkR (p : List Int × Bool) : Int := if p.2 = true ∧ p.1 ≠ [] ∧ p.1.length ≤ 64 then (if p.1.any badR then 7 else 0) else 7
theorem rd_at (xs : List Int) (i : Nat) (h : i < xs.length) : rd xs (i : Int) = xs[i] := by
  unfold rd; rw [Int.toNat_natCast, List.getD_eq_getElem?_getD, List.getElem?_eq_getElem h]; rfl
theorem any_drop (xs : List Int) (i : Nat) (h : i < xs.length) : (xs.drop i).any badR = (badR xs[i] || (xs.drop (i + 1)).any badR) := by
  rw [List.drop_eq_getElem_cons h]; rfl
theorem check_loop (xs : List Int) (hx : xs.length ≤ 64) : ∀ d k i : Nat, i + d = xs.length → d + 1 ≤ k →
    key_Check.l0 k xs (xs.length : Int) (i : Int) = some (if (xs.drop i).any badR then 7 else 0)
  | 0, k, i, hi, hk => by
    obtain ⟨k, rfl⟩ : ∃ j, k = j + 1 := ⟨k - 1, by omega⟩
    rw [key_Check.l0, if_neg (by omega), List.drop_of_length_le (by omega)]; rfl
  | d + 1, k, i, hi, hk => by
    obtain ⟨k, rfl⟩ : ∃ j, k = j + 1 := ⟨k - 1, by omega⟩
    have hlt : i < xs.length := by omega
    rw [key_Check.l0, if_pos (by omega), if_pos (by omega), if_pos (by omega), rd_at xs i hlt, any_drop xs i hlt]
    have hw : wrap64 ((i : Int) + 1) = ((i + 1 : Nat) : Int) := wrap_succ i xs.length hlt (by omega)
    rw [hw, check_loop xs hx d k (i + 1) (by omega) (by omega)]
    unfold badR
    by_cases h1 : xs[i] < 32
    · simp [h1]
    · by_cases h2 : xs[i] = 127
      · simp [h2]
      · simp [h1, h2]
theorem key_Check_f (k : Nat) (hk : 70 ≤ k) (l : List UInt8) (h : l.length ≤ 1000000) : key_Check.f k (bs l) = some (checkR (runesR l)) := by
  obtain ⟨k, rfl⟩ : ∃ j, k = j + 1 := ⟨k - 1, by omega⟩
  unfold key_Check.f checkR
  rw [key_runes_f l h]
  simp only [Option.bind_some]
  generalize runesR l = p
  obtain ⟨xs, b⟩ := p
  simp only
  by_cases hb : b = true
  · rw [if_pos hb]
    by_cases h0 : xs = []
    · subst h0; simp [key_Check.j0]
    · have hl : ¬ ((xs.length : Int) = 0) := by
        intro e; exact h0 (List.eq_nil_of_length_eq_zero (by omega))
      rw [if_neg hl]
      by_cases h64 : xs.length ≤ 64
      · have hd : decide ((xs.length : Int) > 64) = false := by simp; omega
        rw [hd, if_pos ⟨hb, h0, h64⟩, key_Check.j0, if_neg (by decide)]
        have := check_loop xs h64 xs.length k 0 (by omega) (by omega)
        rw [List.drop_zero] at this
        exact this
      · have hd : decide ((xs.length : Int) > 64) = true := by simp; omega
        rw [hd, if_neg (fun h => h64 h.2.2), key_Check.j0, if_pos rfl]
  · rw [if_neg hb, if_neg (fun h => hb h.1), key_Check.j0, if_pos rfl]
theorem live08 (k : Nat) (hk : 70 ≤ k) : sheetpilelaw08_live.f k = some true := by
  unfold sheetpilelaw08_live.f
  simp only [mk_bs]
  rw [key_Count_f _ (by decide), key_Count_f _ (by decide), key_Unquote_f _ (by decide), key_Unquote_f _ (by decide), key_Unquote_f _ (by decide), key_Unquote_f _ (by decide), key_Quote_f _ (by decide), key_Quote_f _ (by decide), key_Check_f k hk _ (by decide), key_Check_f k hk _ (by decide), key_Check_f k hk _ (by decide), key_Check_f k hk _ (by decide)]
  simp only [Option.bind_some]
  have r1 : runesR [97, 195, 169, 226, 130, 172, 240, 159, 153, 130] = ([97, 233, 8364, 128578], true) := by
    simp [runesR, runesL, dec1, gN, cN, okR, intsOf]
  have r2 : runesR [195] = ([], false) := by simp [runesR, runesL, dec1, gN, cN, okR, intsOf]
  have r3 : runesR [107, 101, 121] = ([107, 101, 121], true) := by simp [runesR, runesL, dec1, gN, cN, okR, intsOf]
  have r4 : runesR [] = ([], true) := by simp [runesR, runesL, dec1, gN, cN, okR, intsOf]
  have r5 : runesR [97, 10] = ([97, 10], true) := by simp [runesR, runesL, dec1, gN, cN, okR, intsOf]
  have r6 : runesR [237, 160, 128] = ([], false) := by simp [runesR, runesL, dec1, gN, cN, okR, intsOf]
  have u1 : unqF [97, 37, 50, 48, 98] = ([97, 32, 98], 0) := by decide +kernel
  have u2 : unqF [97, 37, 50] = ([], 5) := by decide +kernel
  have u3 : unqF [37, 52, 49] = ([], 5) := by decide +kernel
  have u4 : unqF [37] = ([], 0) := by decide +kernel
  have q1 : quoteL [97, 32, 98] = [97, 37, 50, 48, 98] := by decide +kernel
  have q2 : quoteL [] = [37] := by decide +kernel
  rw [r1, r2, r3, r4, r5, r6, u1, u2, u3, u4, q1, q2]
  simp [bs_toList, checkR, badR]
end Go.Proofs.Ytdkaokjnfkfngaa.Pure
