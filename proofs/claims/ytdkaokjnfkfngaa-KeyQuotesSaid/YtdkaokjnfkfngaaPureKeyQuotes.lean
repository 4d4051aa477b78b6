/- What any text is, quoted; what any quoted one is, or that it is none. -/
import Derived.Test.YtdkaokjnfkfngaaPKeyx4
import Derived.Test.YtdkaokjnfkfngaaPureKeyBack
namespace Go.Proofs.Ytdkaokjnfkfngaa.Pure
set_option linter.unusedVariables false
set_option linter.unusedSimpArgs false
open Go.RowKit Go.Proofs.Ytdkaokjnfkfngaa.PKey Go.Proofs.Ytdkaokjnfkfngaa.Given Go.Proofs.Ytdkaokjnfkfngaa.Bs Go.Proofs.Ytdkaokjnfkfngaa.KeyPlain Go.Proofs.Ytdkaokjnfkfngaa.RunesPlain Go.Proofs.YtdkaokjnfkfngaaW.PrintWords Go.Proofs.YtdkaokjnfkfngaaW.PrintLast
theorem digit_f (c : UInt8) (k : Nat) (hk : 1 ≤ k) : sheetpileref08_digit.f k (c.toNat : Int) = some (hv c) := by
  have key : ∀ n : Fin 256, sheetpileref08_digit.f 1 ((n.val : Nat) : Int) = some (hv (UInt8.ofNat n.val)) := by decide +kernel
  have h := key ⟨c.toNat, c.toNat_lt⟩
  simp only [UInt8.ofNat_toNat] at h
  induction k with
  | zero => omega
  | succ k ih =>
    cases k with
    | zero => exact h
    | succ k => exact sheetpileref08_digit.mono _ _ _ (ih (by omega))
theorem wrap_one (p : Nat) (h : p ≤ 1000) : wrap64 ((p : Int) + 1) = ((p + 1 : Nat) : Int) := by rw [wrap_id (by omega) (by omega)]; omega
theorem wrap_two (p : Nat) (h : p ≤ 1000) : wrap64 ((p : Int) + 2) = ((p + 2 : Nat) : Int) := by rw [wrap_id (by omega) (by omega)]; omega
theorem wrap_three (p : Nat) (h : p ≤ 1000) : wrap64 (((p + 2 : Nat) : Int) + 1) = ((p + 3 : Nat) : Int) := by rw [wrap_id (by omega) (by omega)]; omega
theorem wrap_byte (x y : Int) (x0 : 0 ≤ x) (x1 : x < 16) (y0 : 0 ≤ y) (y1 : y < 16) : wrap64 (wrap64 (16 * x) + y) % 256 = (((UInt8.ofNat (16 * x.toNat + y.toNat)).toNat : Nat) : Int) := by
  rw [wrap_id (a := 16 * x) (by omega) (by omega), wrap_id (by omega) (by omega), UInt8.toNat_ofNat']
  omega
theorem ref_Quote_f (l : List UInt8) (h : l.length ≤ 10000000) : sheetpileref08_Quote.f (bs l) = some (bs (quoteL l)) := by
  unfold sheetpileref08_Quote.f; rw [bs_size, if_pos h, bs_data]
theorem bt_hd (pre : List UInt8) (c : UInt8) (r : List UInt8) (j : Nat) (d : UInt8) (h : (c :: r)[j]? = some d) : bt (bs (pre ++ c :: r)) ((pre.length + j : Nat) : Int) = ((d.toNat : Nat) : Int) := by
  have hj : j < (c :: r).length := by
    rcases Nat.lt_or_ge j (c :: r).length with h2 | h2
    · exact h2
    · rw [List.getElem?_eq_none h2] at h; cases h
  have hl : pre.length + j < (pre ++ c :: r).length := by rw [List.length_append]; omega
  rw [bt_bs _ _ hl]
  have e : (pre ++ c :: r)[pre.length + j]? = some d := by rw [List.getElem?_append_right (by omega)]; simpa using h
  rw [List.getElem?_eq_getElem hl] at e
  injection e with e
  rw [e]
set_option maxHeartbeats 2000000 in
theorem ref_unq (s : List UInt8) (hs : s.length ≤ 1000) (hne : s ≠ [37]) : ∀ (m : Nat) (r pre acc : List UInt8) (k : Nat), r.length = m → s = pre ++ r → acc.length ≤ pre.length → 3 * m + 10 ≤ k → unqA s [] = unqA r acc →
    sheetpileref08_Unquote.l0 k (bs s) (bs acc) (pre.length : Int) = some (bs (unqF s).1, (unqF s).2) := by
  have hnb : (s != [37]) = true := by simpa using hne
  intro m
  induction m using Nat.strongRecOn with
  | _ m ih =>
    intro r pre acc k hr he hacc hk hu
    obtain ⟨k, rfl⟩ : ∃ j, k = j + 6 := ⟨k - 6, by omega⟩
    have hsl : s.length = pre.length + r.length := by rw [he, List.length_append]
    cases r with
    | nil =>
      rw [sheetpileref08_Unquote.l0, bs_size, if_neg (by simp at hsl; omega), sheetpileref08_Unquote.j1, if_neg (by decide), ref_Quote_f acc (by simp at hsl; omega)]
      simp only [Option.bind_some, bs_toList]
      have hF : unqF s = if quoteL acc = s then (acc, 0) else ([], 5) := by
        unfold unqF; rw [if_neg hne, hu]; rfl
      rw [hF]
      by_cases hq : quoteL acc = s
      · rw [if_pos hq, if_pos hq]
      · rw [if_neg hq, if_neg hq]; rfl
    | cons c r =>
      have hrl : r.length + 1 = m := by simpa using hr
      have hsl2 : s.length = pre.length + (r.length + 1) := by simpa using hsl
      have hbc : bt (bs s) (pre.length : Int) = ((c.toNat : Nat) : Int) := by
        have := bt_hd pre c r 0 c rfl
        rw [← he] at this; exact this
      have hb1 : ∀ x, r[0]? = some x → bt (bs s) ((pre.length + 1 : Nat) : Int) = ((x.toNat : Nat) : Int) := by
        intro x hx
        have := bt_hd pre c r 1 x (by simpa using hx)
        rw [← he] at this; exact this
      have hb2 : ∀ x, r[1]? = some x → bt (bs s) ((pre.length + 2 : Nat) : Int) = ((x.toNat : Nat) : Int) := by
        intro x hx
        have := bt_hd pre c r 2 x (by simpa using hx)
        rw [← he] at this; exact this
      have hpl : pre.length ≤ 1000 := by omega
      rw [sheetpileref08_Unquote.l0, bs_size, if_pos (by omega), bs_toList, hnb, sheetpileref08_Unquote.j1, if_pos (rfl : true = true), bs_size, if_pos (by omega), if_pos (by omega), hbc, wrap_one _ hpl, wrap_two _ hpl]
      by_cases hc : c = 37
      · have hci : ((c.toNat : Nat) : Int) = 37 := by rw [hc]; rfl
        rw [if_pos hci]
        have fail_ : unqA s [] = none → some (bs ([] : List UInt8), (5 : Int)) = some (bs (unqF s).1, (unqF s).2) := by
          intro hn
          have hF : unqF s = ([], 5) := by unfold unqF; rw [if_neg hne, hn]
          rw [hF]
        match r, hr, he, hsl, hrl, hsl2, hb1, hb2, hu with
        | [], hr, he, hsl, hrl, hsl2, hb1, hb2, hu =>
          rw [if_pos (by simp at hsl2; omega), sheetpileref08_Unquote.j2, if_pos (rfl : true = true)]
          exact fail_ (by rw [hu, hc, unqA_short _ _ (by simp)])
        | [x], hr, he, hsl, hrl, hsl2, hb1, hb2, hu =>
          rw [if_pos (by simp at hsl2; omega), sheetpileref08_Unquote.j2, if_pos (rfl : true = true)]
          exact fail_ (by rw [hu, hc, unqA_short _ _ (by simp)])
        | x :: y :: t, hr, he, hsl, hrl, hsl2, hb1, hb2, hu =>
          have hsl3 : s.length = pre.length + (t.length + 3) := by simpa using hsl2
          rw [if_neg (by omega), if_pos (by omega), if_pos (by omega), hb1 x rfl, digit_f x _ (by omega)]
          simp only [Option.bind_some]
          rw [hc, unqA, if_pos rfl] at hu
          by_cases hx : hv x < 0
          · rw [if_pos hx, sheetpileref08_Unquote.j2, if_pos (rfl : true = true)]
            exact fail_ (by rw [hu, if_pos (.inl hx)])
          · rw [if_neg hx, if_pos (by omega), if_pos (by omega), hb2 y rfl, digit_f y _ (by omega)]
            simp only [Option.bind_some]
            by_cases hy : hv y < 0
            · rw [decide_eq_true hy, sheetpileref08_Unquote.j2, if_pos (rfl : true = true)]
              exact fail_ (by rw [hu, if_pos (.inr hy)])
            · rw [decide_eq_false hy, sheetpileref08_Unquote.j2, if_neg (by decide), wrap_one _ hpl, wrap_two _ hpl, bs_size, if_pos (by omega), if_pos (by omega), hb1 x rfl, digit_f x _ (by omega)]
              simp only [Option.bind_some]
              rw [if_pos (by omega), if_pos (by omega), hb2 y rfl, digit_f y _ (by omega)]
              simp only [Option.bind_some]
              rw [if_neg (by omega)] at hu
              have bx := hv_bounds x
              have by' := hv_bounds y
              have hso : strOfNums [wrap64 (wrap64 (16 * hv x) + hv y) % 256] = bs [UInt8.ofNat (16 * (hv x).toNat + (hv y).toNat)] := by
                rw [wrap_byte _ _ (by omega) bx.2 (by omega) by'.2]; exact strOfNums_numsOf [_]
              rw [hso, bs_size, bs_size, if_pos (by simp; omega), wrap_three _ hpl, bs_append]
              have hp3 : ((pre.length + 3 : Nat) : Int) = (((pre ++ [c, x, y]).length : Nat) : Int) := by simp
              rw [hp3]
              exact ih (t.length) (by simp at hrl; omega) t (pre ++ [c, x, y]) _ _ rfl (by rw [he]; simp) (by simp; omega) (by simp at hrl; omega) hu
      · have hci : ¬ ((c.toNat : Nat) : Int) = 37 := by
          intro h
          exact hc (UInt8.toNat_inj.1 (by show c.toNat = 37; omega))
        have hex : (bs s).extract ((pre.length : Nat) : Int).toNat ((pre.length + 1 : Nat) : Int).toNat = bs [c] := by
          rw [Int.toNat_natCast, Int.toNat_natCast, bs_extract, he, List.drop_left' rfl]
          congr 1
          rw [show pre.length + 1 - pre.length = 1 by omega]; rfl
        rw [if_neg hci, if_pos (by omega), if_pos (by omega), hex, bs_size, bs_size, if_pos (by simp; omega), bs_append]
        have hp1 : ((pre.length + 1 : Nat) : Int) = (((pre ++ [c]).length : Nat) : Int) := by simp
        rw [hp1]
        exact ih r.length (by omega) r (pre ++ [c]) _ _ rfl (by rw [he]; simp) (by simp; omega) (by omega) (by rw [hu, unqA_ne c r acc hc])
theorem ref_Unquote_f (s : List UInt8) (hs : s.length ≤ 1000) (k : Nat) (hk : 5000 ≤ k) : sheetpileref08_Unquote.f k (bs s) = some (bs (unqF s).1, (unqF s).2) := by
  unfold sheetpileref08_Unquote.f
  by_cases hne : s = [37]
  · subst hne
    obtain ⟨k, rfl⟩ : ∃ j, k = j + 2 := ⟨k - 2, by omega⟩
    rw [sheetpileref08_Unquote.l0, bs_size, if_pos (by decide), bs_toList]
    show sheetpileref08_Unquote.j1 (k + 1) (bs [37]) (bs []) 0 false = _
    rw [sheetpileref08_Unquote.j1, if_neg (by decide), ref_Quote_f [] (by decide)]
    simp only [Option.bind_some, bs_toList]
    rfl
  · exact ref_unq s hs hne s.length s [] [] k rfl rfl (by simp) (by omega) rfl
theorem KeyQuotes : sheetpilelaw08_KeyQuotes.Pure := by
  intro a0 h0
  obtain ⟨s, rfl⟩ := ex_bs a0
  obtain ⟨K, hK⟩ : ∃ K, K = 6000 := ⟨_, rfl⟩
  refine ⟨K, ?_⟩
  unfold sheetpilelaw08_KeyQuotes.f
  rw [bs_size, live08 K (by omega)]
  by_cases ha : (s.length : Int) > 1000
  · rw [if_pos ha]; rfl
  · rw [if_neg ha, key_Unquote_f s (by omega), ref_Unquote_f s (by omega) K (by omega), key_Quote_f s (by omega), ref_Quote_f s (by omega)]
    simp only [Option.bind_some, if_true]
end Go.Proofs.Ytdkaokjnfkfngaa.Pure
