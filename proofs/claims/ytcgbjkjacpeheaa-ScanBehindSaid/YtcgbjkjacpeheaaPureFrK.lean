/- What key's Check and its reference answer, in lists of bytes. -/
import Derived.Test.YtcgbjkjacpeheaaPFrx2
import Derived.Test.YtcgbjkjacpeheaaPFrx4
import Derived.Test.YtcgbjkjacpeheaaPFrx5
import Derived.Test.YtcgbjkjacpeheaaBs
import Derived.Test.YtcgbjkjacpeheaaKeyPlain
import Derived.Test.YtcgbjkjacpeheaaRunesPlain
namespace Go.Proofs.Ytcgbjkjacpeheaa.Pure
set_option linter.unusedVariables false
set_option linter.unusedSimpArgs false
open Go.RowKit Go.Proofs.Ytcgbjkjacpeheaa.PFr Go.Proofs.Ytcgbjkjacpeheaa.Given Go.Proofs.Ytcgbjkjacpeheaa.Bs Go.Proofs.Ytcgbjkjacpeheaa.KeyPlain Go.Proofs.Ytcgbjkjacpeheaa.RunesPlain Go.Proofs.YtcgbjkjacpeheaaW.PrintWords Go.Proofs.YtcgbjkjacpeheaaW.PrintLast Go.Proofs.YtcgbjkjacpeheaaW.PrintMore
theorem key_runes_f (l : List UInt8) (h : l.length ≤ 1000000) : key_runes.f (bs l) = some (runesR l) := by
  unfold key_runes.f; rw [bs_size, if_pos h, bs_data]
def badR (x : Int) : Bool := decide (x < 32) || x == 127
def checkR (p : List Int × Bool) : Int := if p.2 = true ∧ p.1 ≠ [] ∧ p.1.length ≤ 64 then (if p.1.any badR then 7 else 0) else 7
theorem rd_at (xs : List Int) (i : Nat) (h : i < xs.length) : rd xs (i : Int) = xs[i] := by
  unfold rd; rw [Int.toNat_natCast, List.getD_eq_getElem?_getD, List.getElem?_eq_getElem h]; rfl
theorem any_drop (xs : List Int) (i : Nat) (h : i < xs.length) : (xs.drop i).any badR = (badR xs[i] || (xs.drop (i + 1)).any badR) := by
  rw [List.drop_eq_getElem_cons h]; rfl
theorem check_loop (xs : List Int) (hx : xs.length ≤ 64) : ∀ d k i : Nat, i + d = xs.length → d + 1 ≤ k →
    key_Check.l0 k xs (xs.length : Int) (i : Int) = some (if (xs.drop i).any badR then 7 else 0)
  | 0, k, i, hi, hk => by
    obtain ⟨k, rfl⟩ : ∃ j, k = j + 1 := ⟨k - 1, by omega⟩
    rw [key_Check.l0, if_neg (by omega), List.drop_of_length_le (by omega)]; rfl
  | d + 1, k, i, hi, hk => by
    obtain ⟨k, rfl⟩ : ∃ j, k = j + 1 := ⟨k - 1, by omega⟩
    have hlt : i < xs.length := by omega
    rw [key_Check.l0, if_pos (by omega), if_pos (by omega), if_pos (by omega), rd_at xs i hlt, any_drop xs i hlt]
    have hw : wrap64 ((i : Int) + 1) = ((i + 1 : Nat) : Int) := wrap_succ i xs.length hlt (by omega)
    rw [hw, check_loop xs hx d k (i + 1) (by omega) (by omega)]
    unfold badR
    by_cases h1 : xs[i] < 32
    · simp [h1]
    · by_cases h2 : xs[i] = 127
      · simp [h2]
      · simp [h1, h2]
theorem key_Check_f (k : Nat) (hk : 70 ≤ k) (l : List UInt8) (h : l.length ≤ 1000000) : key_Check.f k (bs l) = some (checkR (runesR l)) := by
  obtain ⟨k, rfl⟩ : ∃ j, k = j + 1 := ⟨k - 1, by omega⟩
  unfold key_Check.f checkR
  rw [key_runes_f l h]
  simp only [Option.bind_some]
  generalize runesR l = p
  obtain ⟨xs, b⟩ := p
  simp only
  by_cases hb : b = true
  · rw [if_pos hb]
    by_cases h0 : xs = []
    · subst h0; simp [key_Check.j0]
    · have hl : ¬ ((xs.length : Int) = 0) := by
        intro e; exact h0 (List.eq_nil_of_length_eq_zero (by omega))
      rw [if_neg hl]
      by_cases h64 : xs.length ≤ 64
      · have hd : decide ((xs.length : Int) > 64) = false := by simp; omega
        rw [hd, if_pos ⟨hb, h0, h64⟩, key_Check.j0, if_neg (by decide)]
        have := check_loop xs h64 xs.length k 0 (by omega) (by omega)
        rw [List.drop_zero] at this
        exact this
      · have hd : decide ((xs.length : Int) > 64) = true := by simp; omega
        rw [hd, if_neg (fun h => h64 h.2.2), key_Check.j0, if_pos rfl]
  · rw [if_neg hb, if_neg (fun h => hb h.1), key_Check.j0, if_pos rfl]
theorem bt_at_drop (l : List UInt8) (p j : Nat) (h : p + j < l.length) : bt (bs l) ((p + j : Nat) : Int) = ((gN (l.drop p) j : Nat) : Int) := by
  rw [bt_bs l (p + j) h, ← gN_drop]
  unfold gN
  rw [List.getD_eq_getElem?_getD, List.getElem?_eq_getElem h]; rfl
theorem bt_at_0 (l : List UInt8) (p : Nat) (h : p < l.length) : bt (bs l) (p : Int) = ((gN (l.drop p) 0 : Nat) : Int) := bt_at_drop l p 0 (by omega)
theorem tmod_nat (a b : Nat) : Int.tmod (a : Int) (b : Int) = ((a % b : Nat) : Int) := by
  rw [Int.tmod_eq_emod_of_nonneg (by omega)]; omega
theorem more_f (k c : Nat) : sheetpileref08_more.f (k + 2) (c : Int) = some (if c < 128 then 0 else if 192 ≤ c ∧ c < 224 then 1 else if 224 ≤ c ∧ c < 240 then 2 else if 240 ≤ c ∧ c < 248 then 3 else -1) := by
  unfold sheetpileref08_more.f
  by_cases h1 : c < 128
  · rw [if_pos (by omega), if_pos h1]
  · rw [if_neg (by omega), if_neg h1]
    by_cases h2 : 192 ≤ c ∧ c < 224
    · have d : decide ((c : Int) < 224) = true := by simp; omega
      rw [if_pos (by omega), if_pos h2, d, sheetpileref08_more.j0, if_pos rfl]
    · rw [if_neg h2]
      have e : (if (c : Int) ≥ 192 then sheetpileref08_more.j0 (k + 2) (c : Int) (decide ((c : Int) < 224)) else sheetpileref08_more.j0 (k + 2) (c : Int) false) = sheetpileref08_more.j0 (k + 2) (c : Int) false := by
        by_cases h : (c : Int) ≥ 192
        · have d : decide ((c : Int) < 224) = false := by simp; omega
          rw [if_pos h, d]
        · rw [if_neg h]
      rw [e, sheetpileref08_more.j0, if_neg (by decide)]
      by_cases h3 : 224 ≤ c ∧ c < 240
      · have d : decide ((c : Int) < 240) = true := by simp; omega
        rw [if_pos (by omega), if_pos h3, d, sheetpileref08_more.j1, if_pos rfl]
      · rw [if_neg h3]
        have e : (if (c : Int) ≥ 224 then sheetpileref08_more.j1 (k + 1) (c : Int) (decide ((c : Int) < 240)) else sheetpileref08_more.j1 (k + 1) (c : Int) false) = sheetpileref08_more.j1 (k + 1) (c : Int) false := by
          by_cases h : (c : Int) ≥ 224
          · have d : decide ((c : Int) < 240) = false := by simp; omega
            rw [if_pos h, d]
          · rw [if_neg h]
        rw [e, sheetpileref08_more.j1, if_neg (by decide)]
        by_cases h4 : 240 ≤ c ∧ c < 248
        · rw [if_pos (by omega), if_pos (by omega), if_pos h4]
        · rw [if_neg h4]
          by_cases h : (c : Int) ≥ 240
          · rw [if_pos h, if_neg (by omega)]
          · rw [if_neg h]
def fitsN (x n : Nat) : Bool := if n = 0 then true else if n = 1 then decide (128 ≤ x) else if n = 2 then decide (2048 ≤ x) && (decide (x < 55296) || decide (57343 < x)) else decide (65536 ≤ x) && decide (x ≤ 1114111)
theorem fits_f (x n : Nat) : sheetpileref08_fits.f (x : Int) (n : Int) = some (fitsN x n) := by
  unfold sheetpileref08_fits.f fitsN
  by_cases h0 : n = 0
  · rw [if_pos (by omega), if_pos h0]
  · rw [if_neg (by omega), if_neg h0]
    by_cases h1 : n = 1
    · rw [if_pos (by omega), if_pos h1]; congr 1; rw [Bool.eq_iff_iff]; simp; omega
    · rw [if_neg (by omega), if_neg h1]
      by_cases h2 : n = 2
      · rw [if_pos (by omega), if_pos h2]
        by_cases h3 : 2048 ≤ x
        · rw [if_pos (by omega)]
          by_cases h4 : x < 55296
          · rw [if_pos (by omega)]; simp [h3, h4]
          · rw [if_neg (by omega)]; congr 1; rw [Bool.eq_iff_iff]; simp; omega
        · rw [if_neg (by omega)]; simp [h3]
      · rw [if_neg (by omega), if_neg h2]
        by_cases h3 : 65536 ≤ x
        · rw [if_pos (by omega)]; congr 1; rw [Bool.eq_iff_iff]; simp; omega
        · rw [if_neg (by omega)]; simp [h3]
theorem first_f (c n : Nat) (hc : c < 256) : sheetpileref08_first.f (c : Int) (n : Int) = some (((if n = 0 then c else if n = 1 then c % 32 else if n = 2 then c % 16 else c % 8 : Nat)) : Int) := by
  unfold sheetpileref08_first.f
  rw [wrap_id (by omega) (by omega)]
  by_cases h0 : n = 0
  · rw [if_pos (by omega), if_pos h0]
  · rw [if_neg (by omega), if_neg h0]
    by_cases h1 : n = 1
    · rw [if_pos (by omega), if_pos h1]; exact congrArg some (tmod_nat c 32)
    · rw [if_neg (by omega), if_neg h1]
      by_cases h2 : n = 2
      · rw [if_pos (by omega), if_pos h2]; exact congrArg some (tmod_nat c 16)
      · rw [if_neg (by omega), if_neg h2]; exact congrArg some (tmod_nat c 8)
theorem l1_step (k : Nat) (l : List UInt8) (xs : List Int) (p n x j : Nat) (hj : j ≤ n) (hp : p + j < l.length) (hl : l.length ≤ 1000000) (hx : x < 1000000000000) :
    sheetpileref08_Runes.l1 (k + 1) (bs l) xs (p : Int) (n : Int) (x : Int) (j : Int) =
      if gN (l.drop p) j / 64 = 2 then sheetpileref08_Runes.l1 k (bs l) xs (p : Int) (n : Int) ((x * 64 + gN (l.drop p) j % 64 : Nat) : Int) ((j + 1 : Nat) : Int) else some ([], false) := by
  have w1 : wrap64 ((p : Int) + (j : Int)) = ((p + j : Nat) : Int) := by rw [wrap_id (by omega) (by omega)]; omega
  have w2 : wrap64 ((j : Int) + 1) = ((j + 1 : Nat) : Int) := by rw [wrap_id (by omega) (by omega)]; omega
  have g := gN_lt (l.drop p) j
  rw [sheetpileref08_Runes.l1, if_pos (by omega), w1, bs_size, if_pos (by omega), if_pos (by omega), bt_at_drop l p j hp, w2]
  by_cases c1 : gN (l.drop p) j < 128
  · rw [if_pos (by omega), if_neg (by omega)]
  · rw [if_neg (by omega)]
    by_cases c2 : gN (l.drop p) j > 191
    · rw [if_pos (by omega), if_neg (by omega)]
    · rw [if_neg (by omega), if_pos (by omega)]
      congr 1
      rw [wrap_id (a := ((gN (l.drop p) j : Nat) : Int)) (by omega) (by omega)]
      have := tmod_nat (gN (l.drop p) j) 64
      rw [show ((64 : Nat) : Int) = 64 from rfl] at this
      rw [this, wrap_id (a := 64 * (x : Int)) (by omega) (by omega), wrap_id (by omega) (by omega)]
      omega
theorem l1_end (k : Nat) (l : List UInt8) (xs : List Int) (p n x : Nat) (hp : p + n < l.length) (hl : l.length ≤ 1000000) (hxs : xs.length ≤ 1000000) :
    sheetpileref08_Runes.l1 (k + 1) (bs l) xs (p : Int) (n : Int) (x : Int) ((n + 1 : Nat) : Int) =
      if fitsN x n = true then sheetpileref08_Runes.l0 k (bs l) (xs ++ [(x : Int)]) ((p + (n + 1) : Nat) : Int) else some ([], false) := by
  have w1 : wrap64 ((p : Int) + (n : Int)) = ((p + n : Nat) : Int) := by rw [wrap_id (by omega) (by omega)]; omega
  have w2 : wrap64 (((p + n : Nat) : Int) + 1) = ((p + (n + 1) : Nat) : Int) := by rw [wrap_id (by omega) (by omega)]; omega
  rw [sheetpileref08_Runes.l1, if_neg (by omega), fits_f, w1, w2, if_pos (show xs.length < 17592186044416 by omega)]
  rfl
def firstN (c n : Nat) : Nat := if n = 0 then c else if n = 1 then c % 32 else if n = 2 then c % 16 else c % 8
theorem l0_head (k : Nat) (l : List UInt8) (xs : List Int) (p : Nat) (n x : Nat) (hl : l.length ≤ 1000000)
    (hp : p < l.length) (hm : sheetpileref08_more.f (k + 2) ((gN (l.drop p) 0 : Nat) : Int) = some ((n : Nat) : Int)) (hn : n ≤ 3) (hx : firstN (gN (l.drop p) 0) n = x) :
    sheetpileref08_Runes.l0 (k + 3) (bs l) xs (p : Int) =
      if p + n < l.length then sheetpileref08_Runes.l1 (k + 1) (bs l) xs (p : Int) (n : Int) (x : Int) ((1 : Nat) : Int) else some ([], false) := by
  have w1 : wrap64 ((p : Int) + (n : Int)) = ((p + n : Nat) : Int) := by rw [wrap_id (by omega) (by omega)]; omega
  have hf := first_f (gN (l.drop p) 0) n (gN_lt _ _)
  have hx2 : (if n = 0 then gN (l.drop p) 0 else if n = 1 then gN (l.drop p) 0 % 32 else if n = 2 then gN (l.drop p) 0 % 16 else gN (l.drop p) 0 % 8) = x := hx
  rw [hx2] at hf
  have hb := bt_at_0 l p hp
  generalize gN (l.drop p) 0 = c at hm hf hb
  clear hx hx2
  rw [sheetpileref08_Runes.l0, bs_size, if_pos (by omega), if_pos (by omega), hb, hm, Option.bind_some, if_neg (by omega), w1]
  clear hm w1
  by_cases h : p + n < l.length
  · have d : decide (((p + n : Nat) : Int) ≥ (l.length : Int)) = false := by simp; omega
    rw [if_pos h, d, sheetpileref08_Runes.j1, if_neg Bool.false_ne_true, if_pos (by omega), bs_size, if_pos (by omega), hb, hf, Option.bind_some, Int.natCast_one]
  · have d : decide (((p + n : Nat) : Int) ≥ (l.length : Int)) = true := by simp; omega
    rw [if_neg h, d, sheetpileref08_Runes.j1, if_pos rfl]
theorem ref_runes : ∀ (m p k : Nat) (l : List UInt8) (xs : List Nat), l.length ≤ 1000000 → xs.length ≤ p → p + m = l.length → 3 * m + 10 ≤ k →
    sheetpileref08_Runes.l0 k (bs l) (intsOf xs) (p : Int) = some (match runesL (l.drop p) with | none => ([], false) | some ys => (intsOf (xs ++ ys), true)) := by
  intro m
  induction m using Nat.strongRecOn with
  | _ m ih =>
    intro p k l xs hl hxs hp hk
    have hxl : (intsOf xs).length ≤ 1000000 := by simp [intsOf]; omega
    have hia : ∀ x : Nat, intsOf xs ++ [(x : Int)] = intsOf (xs ++ [x]) := by intro x; simp [intsOf]
    by_cases hm : m = 0
    · obtain ⟨k, rfl⟩ : ∃ j, k = j + 1 := ⟨k - 1, by omega⟩
      rw [sheetpileref08_Runes.l0, bs_size, if_neg (by omega), List.drop_of_length_le (by omega), runesL_nil]
      simp
    · have hlt : p < l.length := by omega
      have hne : l.drop p ≠ [] := by simp; omega
      have hdl : (l.drop p).length = l.length - p := List.length_drop
      obtain ⟨D, hD⟩ : ∃ D, D = l.drop p := ⟨_, rfl⟩
      rw [← hD] at hne hdl ⊢
      have cn : ∀ j, cN D j = true ↔ p + j < l.length ∧ gN D j / 64 = 2 := by intro j; rw [cN_spec, hdl]; omega
      have fin : ∀ (q : Nat) (x n : Nat), dec1 D = some (x, n + 1) → p + n < l.length → 3 * (m - (n + 1)) + 10 ≤ q →
          sheetpileref08_Runes.l0 q (bs l) (intsOf xs ++ [(x : Int)]) ((p + (n + 1) : Nat) : Int) = some (match runesL D with | none => ([], false) | some ys => (intsOf (xs ++ ys), true)) := by
        intro q x n hd hn hq
        rw [hia, ih (m - (n + 1)) (by omega) (p + (n + 1)) q l (xs ++ [x]) hl (by simp; omega) (by omega) hq, runesL_some hne hd, hD, List.drop_drop]
        cases runesL (l.drop (p + (n + 1))) <;> simp
      have bad : dec1 D = none → some (([] : List Int), false) = some (match runesL D with | none => ([], false) | some ys => (intsOf (xs ++ ys), true)) := by
        intro hd; rw [runesL_none hne hd]
      have g0 := gN_lt D 0
      have g1 := gN_lt D 1
      have g2 := gN_lt D 2
      have g3 := gN_lt D 3
      obtain ⟨k, rfl⟩ : ∃ j, k = j + 7 := ⟨k - 7, by omega⟩
      have hmf := more_f (k + 4) (gN D 0)
      by_cases c0 : gN D 0 < 128
      · rw [if_pos c0] at hmf
        have hd : dec1 D = some (gN D 0, 0 + 1) := by unfold dec1; rw [if_pos c0]
        rw [l0_head (k + 4) l (intsOf xs) p 0 (gN D 0) hl hlt (by rw [← hD]; exact hmf) (by omega) (by rw [← hD]; rfl), if_pos (by omega)]
        have := l1_end (k + 4) l (intsOf xs) p 0 (gN D 0) (by omega) hl hxl
        rw [this, if_pos (by rfl)]
        exact fin (k + 4) _ 0 hd (by omega) (by omega)
      · rw [if_neg c0] at hmf
        by_cases c1 : 192 ≤ gN D 0 ∧ gN D 0 < 224
        · rw [if_pos c1] at hmf
          rw [l0_head (k + 4) l (intsOf xs) p 1 (gN D 0 % 32) hl hlt (by rw [← hD]; exact hmf) (by omega) (by rw [← hD]; rfl)]
          have hdu : dec1 D = if cN D 1 = true then (if 128 ≤ gN D 0 % 32 * 64 + gN D 1 % 64 then some (gN D 0 % 32 * 64 + gN D 1 % 64, 2) else none) else none := by
            unfold dec1
            have e1 : (gN D 0 / 32 == 6) = true := by simp; omega
            have e2 : (gN D 0 / 16 == 14) = false := by simp; omega
            have e3 : (gN D 0 / 8 == 30) = false := by simp; omega
            rw [if_neg c0, e1, e2, e3]
            simp only [Bool.true_and, Bool.false_and, Bool.false_eq_true, if_false]
          by_cases h1 : p + 1 < l.length
          · rw [if_pos h1, l1_step (k + 4) l (intsOf xs) p 1 (gN D 0 % 32) 1 (by omega) h1 hl (by omega), ← hD]
            by_cases t1 : gN D 1 / 64 = 2
            · rw [if_pos t1, l1_end (k + 3) l (intsOf xs) p 1 _ h1 hl hxl]
              rw [if_pos ((cn 1).2 ⟨h1, t1⟩)] at hdu
              by_cases t2 : 128 ≤ gN D 0 % 32 * 64 + gN D 1 % 64
              · rw [if_pos t2] at hdu
                rw [if_pos (by simp [fitsN]; omega)]
                exact fin (k + 3) _ 1 hdu h1 (by omega)
              · rw [if_neg t2] at hdu
                rw [if_neg (by simp [fitsN]; omega)]
                exact bad hdu
            · rw [if_neg t1]
              rw [if_neg (fun h => t1 ((cn 1).1 h).2)] at hdu
              exact bad hdu
          · rw [if_neg h1]
            rw [if_neg (fun h => h1 ((cn 1).1 h).1)] at hdu
            exact bad hdu
        · rw [if_neg c1] at hmf
          by_cases c2 : 224 ≤ gN D 0 ∧ gN D 0 < 240
          · rw [if_pos c2] at hmf
            rw [l0_head (k + 4) l (intsOf xs) p 2 (gN D 0 % 16) hl hlt (by rw [← hD]; exact hmf) (by omega) (by rw [← hD]; rfl)]
            have hdu : dec1 D = if cN D 1 = true ∧ cN D 2 = true then (if 2048 ≤ gN D 0 % 16 * 4096 + gN D 1 % 64 * 64 + gN D 2 % 64 ∧ okR (gN D 0 % 16 * 4096 + gN D 1 % 64 * 64 + gN D 2 % 64) then some (gN D 0 % 16 * 4096 + gN D 1 % 64 * 64 + gN D 2 % 64, 3) else none) else none := by
              unfold dec1
              have e1 : (gN D 0 / 32 == 6) = false := by simp; omega
              have e2 : (gN D 0 / 16 == 14) = true := by simp; omega
              have e3 : (gN D 0 / 8 == 30) = false := by simp; omega
              rw [if_neg c0, e1, e2, e3]
              simp only [Bool.true_and, Bool.false_and, Bool.false_eq_true, if_false, Bool.and_eq_true]
            by_cases h2 : p + 2 < l.length
            · rw [if_pos h2, l1_step (k + 4) l (intsOf xs) p 2 (gN D 0 % 16) 1 (by omega) (by omega) hl (by omega), ← hD]
              by_cases t1 : gN D 1 / 64 = 2
              · rw [if_pos t1, l1_step (k + 3) l (intsOf xs) p 2 (gN D 0 % 16 * 64 + gN D 1 % 64) 2 (by omega) h2 hl (by omega), ← hD]
                by_cases t2 : gN D 2 / 64 = 2
                · rw [if_pos t2, l1_end (k + 2) l (intsOf xs) p 2 _ h2 hl hxl]
                  rw [if_pos ⟨(cn 1).2 ⟨by omega, t1⟩, (cn 2).2 ⟨h2, t2⟩⟩] at hdu
                  have ex : (gN D 0 % 16 * 64 + gN D 1 % 64) * 64 + gN D 2 % 64 = gN D 0 % 16 * 4096 + gN D 1 % 64 * 64 + gN D 2 % 64 := by omega
                  rw [ex]
                  have hX : gN D 0 % 16 * 4096 + gN D 1 % 64 * 64 + gN D 2 % 64 < 1114112 := by omega
                  generalize gN D 0 % 16 * 4096 + gN D 1 % 64 * 64 + gN D 2 % 64 = X at hdu hX ⊢
                  by_cases t3 : 2048 ≤ X ∧ okR X
                  · rw [if_pos t3] at hdu
                    have hf : fitsN X 2 = true := by unfold okR at t3; simp [fitsN]; omega
                    rw [if_pos hf]
                    exact fin (k + 2) _ 2 hdu h2 (by omega)
                  · rw [if_neg t3] at hdu
                    have hf : ¬ fitsN X 2 = true := by unfold okR at t3; simp [fitsN]; omega
                    rw [if_neg hf]
                    exact bad hdu
                · rw [if_neg t2]
                  rw [if_neg (fun h => t2 ((cn 2).1 h.2).2)] at hdu
                  exact bad hdu
              · rw [if_neg t1]
                rw [if_neg (fun h => t1 ((cn 1).1 h.1).2)] at hdu
                exact bad hdu
            · rw [if_neg h2]
              rw [if_neg (fun h => h2 ((cn 2).1 h.2).1)] at hdu
              exact bad hdu
          · rw [if_neg c2] at hmf
            by_cases c3 : 240 ≤ gN D 0 ∧ gN D 0 < 248
            · rw [if_pos c3] at hmf
              rw [l0_head (k + 4) l (intsOf xs) p 3 (gN D 0 % 8) hl hlt (by rw [← hD]; exact hmf) (by omega) (by rw [← hD]; rfl)]
              have hdu : dec1 D = if (cN D 1 = true ∧ cN D 2 = true) ∧ cN D 3 = true then (if 65536 ≤ gN D 0 % 8 * 262144 + gN D 1 % 64 * 4096 + gN D 2 % 64 * 64 + gN D 3 % 64 ∧ okR (gN D 0 % 8 * 262144 + gN D 1 % 64 * 4096 + gN D 2 % 64 * 64 + gN D 3 % 64) then some (gN D 0 % 8 * 262144 + gN D 1 % 64 * 4096 + gN D 2 % 64 * 64 + gN D 3 % 64, 4) else none) else none := by
                unfold dec1
                have e1 : (gN D 0 / 32 == 6) = false := by simp; omega
                have e2 : (gN D 0 / 16 == 14) = false := by simp; omega
                have e3 : (gN D 0 / 8 == 30) = true := by simp; omega
                rw [if_neg c0, e1, e2, e3]
                simp only [Bool.true_and, Bool.false_and, Bool.false_eq_true, if_false, Bool.and_eq_true]
              by_cases h3 : p + 3 < l.length
              · rw [if_pos h3, l1_step (k + 4) l (intsOf xs) p 3 (gN D 0 % 8) 1 (by omega) (by omega) hl (by omega), ← hD]
                by_cases t1 : gN D 1 / 64 = 2
                · rw [if_pos t1, l1_step (k + 3) l (intsOf xs) p 3 (gN D 0 % 8 * 64 + gN D 1 % 64) 2 (by omega) (by omega) hl (by omega), ← hD]
                  by_cases t2 : gN D 2 / 64 = 2
                  · rw [if_pos t2, l1_step (k + 2) l (intsOf xs) p 3 ((gN D 0 % 8 * 64 + gN D 1 % 64) * 64 + gN D 2 % 64) 3 (by omega) h3 hl (by omega), ← hD]
                    by_cases t3 : gN D 3 / 64 = 2
                    · rw [if_pos t3, l1_end (k + 1) l (intsOf xs) p 3 _ h3 hl hxl]
                      rw [if_pos ⟨⟨(cn 1).2 ⟨by omega, t1⟩, (cn 2).2 ⟨by omega, t2⟩⟩, (cn 3).2 ⟨h3, t3⟩⟩] at hdu
                      have ex : ((gN D 0 % 8 * 64 + gN D 1 % 64) * 64 + gN D 2 % 64) * 64 + gN D 3 % 64 = gN D 0 % 8 * 262144 + gN D 1 % 64 * 4096 + gN D 2 % 64 * 64 + gN D 3 % 64 := by omega
                      rw [ex]
                      generalize gN D 0 % 8 * 262144 + gN D 1 % 64 * 4096 + gN D 2 % 64 * 64 + gN D 3 % 64 = X at hdu ⊢
                      by_cases t4 : 65536 ≤ X ∧ okR X
                      · rw [if_pos t4] at hdu
                        have hf : fitsN X 3 = true := by unfold okR at t4; simp [fitsN]; omega
                        rw [if_pos hf]
                        exact fin (k + 1) _ 3 hdu h3 (by omega)
                      · rw [if_neg t4] at hdu
                        have hf : ¬ fitsN X 3 = true := by unfold okR at t4; simp [fitsN]; omega
                        rw [if_neg hf]
                        exact bad hdu
                    · rw [if_neg t3]
                      rw [if_neg (fun h => t3 ((cn 3).1 h.2).2)] at hdu
                      exact bad hdu
                  · rw [if_neg t2]
                    rw [if_neg (fun h => t2 ((cn 2).1 h.1.2).2)] at hdu
                    exact bad hdu
                · rw [if_neg t1]
                  rw [if_neg (fun h => t1 ((cn 1).1 h.1.1).2)] at hdu
                  exact bad hdu
              · rw [if_neg h3]
                rw [if_neg (fun h => h3 ((cn 3).1 h.2).1)] at hdu
                exact bad hdu
            · rw [if_neg c3] at hmf
              have hd : dec1 D = none := by
                unfold dec1
                have e1 : (gN D 0 / 32 == 6) = false := by simp; omega
                have e2 : (gN D 0 / 16 == 14) = false := by simp; omega
                have e3 : (gN D 0 / 8 == 30) = false := by simp; omega
                rw [if_neg c0, e1, e2, e3]
                simp
              rw [sheetpileref08_Runes.l0, bs_size, if_pos (by omega), if_pos (by omega), bt_at_0 l p hlt, ← hD, hmf]
              simp only [Option.bind_some]
              rw [if_pos (by decide), sheetpileref08_Runes.j1, if_pos rfl]
              exact bad hd
theorem ref_Runes_f (l : List UInt8) (h : l.length ≤ 1000000) (k : Nat) (hk : 3 * l.length + 10 ≤ k) : sheetpileref08_Runes.f k (bs l) = some (runesR l) := by
  unfold sheetpileref08_Runes.f
  have := ref_runes l.length 0 k l [] h (by simp) (by omega) hk
  rw [List.drop_zero] at this
  refine this.trans ?_
  unfold runesR
  cases runesL l <;> simp
theorem ref_check_loop (xs : List Int) (hx : xs.length ≤ 64) : ∀ d k i : Nat, i + d = xs.length → d + 1 ≤ k →
    sheetpileref08_Check.l0 k xs (i : Int) = some (if (xs.drop i).any badR then 7 else 0)
  | 0, k, i, hi, hk => by
    obtain ⟨k, rfl⟩ : ∃ j, k = j + 1 := ⟨k - 1, by omega⟩
    rw [sheetpileref08_Check.l0, if_neg (by omega), List.drop_of_length_le (by omega)]; rfl
  | d + 1, k, i, hi, hk => by
    obtain ⟨k, rfl⟩ : ∃ j, k = j + 1 := ⟨k - 1, by omega⟩
    have hlt : i < xs.length := by omega
    rw [sheetpileref08_Check.l0, if_pos (by omega), if_pos (by omega), rd_at xs i hlt, any_drop xs i hlt]
    have hw : wrap64 ((i : Int) + 1) = ((i + 1 : Nat) : Int) := wrap_succ i xs.length hlt (by omega)
    rw [hw, ref_check_loop xs hx d k (i + 1) (by omega) (by omega)]
    unfold badR
    by_cases h1 : xs[i] < 32
    · simp [h1]
    · by_cases h2 : xs[i] = 127
      · simp [h2]
      · simp [h1, h2]
theorem ref_Check_f (l : List UInt8) (h : l.length ≤ 1000000) (k : Nat) (hk : 3 * l.length + 80 ≤ k) : sheetpileref08_Check.f k (bs l) = some (checkR (runesR l)) := by
  obtain ⟨k, rfl⟩ : ∃ j, k = j + 1 := ⟨k - 1, by omega⟩
  unfold sheetpileref08_Check.f checkR
  rw [ref_Runes_f l h _ (by omega)]
  simp only [Option.bind_some]
  generalize runesR l = p
  obtain ⟨xs, b⟩ := p
  simp only
  by_cases hb : b = true
  · rw [if_pos hb]
    by_cases h0 : xs = []
    · subst h0; simp [sheetpileref08_Check.j0]
    · have hl : ¬ ((xs.length : Int) = 0) := by
        intro e; exact h0 (List.eq_nil_of_length_eq_zero (by omega))
      rw [if_neg hl]
      by_cases h64 : xs.length ≤ 64
      · have hd : decide ((xs.length : Int) > 64) = false := by simp; omega
        rw [hd, if_pos ⟨hb, h0, h64⟩, sheetpileref08_Check.j0, if_neg (by decide)]
        have := ref_check_loop xs h64 xs.length k 0 (by omega) (by omega)
        rw [List.drop_zero] at this
        exact this
      · have hd : decide ((xs.length : Int) > 64) = true := by simp; omega
        rw [hd, if_neg (fun h => h64 h.2.2), sheetpileref08_Check.j0, if_pos rfl]
  · rw [if_neg hb, if_neg (fun h => hb h.1), sheetpileref08_Check.j0, if_pos rfl]
end Go.Proofs.Ytcgbjkjacpeheaa.Pure
