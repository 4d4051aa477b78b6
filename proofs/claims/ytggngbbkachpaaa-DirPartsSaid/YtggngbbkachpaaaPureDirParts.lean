/- DirParts: a directory behind changes in two parts is what it is behind all of them; the last change is what its key has; of at most 200 pairs, 80 changes. -/
import Derived.Laws.BitsAllLaws
import Derived.Test.YtggngbbkachpaaaBs
import Derived.Test.YtggngbbkachpaaaCrc
import Derived.Test.YtggngbbkachpaaaCrcPlain
import Derived.Test.YtggngbbkachpaaaCut
import Derived.Test.YtggngbbkachpaaaDirApply
import Derived.Test.YtggngbbkachpaaaDirCompact
import Derived.Test.YtggngbbkachpaaaDirGet
import Derived.Test.YtggngbbkachpaaaDirHint
import Derived.Test.YtggngbbkachpaaaKeyPlain
import Derived.Test.YtggngbbkachpaaaKeyRunes
import Derived.Test.YtggngbbkachpaaaPDix0
import Derived.Test.YtggngbbkachpaaaPDix10
import Derived.Test.YtggngbbkachpaaaPDix14
import Derived.Test.YtggngbbkachpaaaPDix15
import Derived.Test.YtggngbbkachpaaaPDix26
import Derived.Test.YtggngbbkachpaaaPDix6
import Derived.Test.YtggngbbkachpaaaPDix7
import Derived.Test.YtggngbbkachpaaaPDix8
import Derived.Test.YtggngbbkachpaaaPDix9
import Derived.Test.YtggngbbkachpaaaRunesPlain
import Derived.Test.YtggngbbkachpaaaWirePlain
namespace Go.Proofs.Ytggngbbkachpaaa.Pure
set_option linter.unusedVariables false
set_option linter.unusedSimpArgs false
open Go.RowKit Go.Proofs.Ytggngbbkachpaaa.PDi Go.Proofs.Ytggngbbkachpaaa.Given Go.Proofs.Ytggngbbkachpaaa.Bs Go.Proofs.Ytggngbbkachpaaa.WirePlain Go.Proofs.YtggngbbkachpaaaW.PrintWords Go.Proofs.YtggngbbkachpaaaW.PrintLast Go.Proofs.YtggngbbkachpaaaW.PrintMore Go.Proofs.Ytggngbbkachpaaa.KeyPlain Go.Proofs.Ytggngbbkachpaaa.RunesPlain Go.Proofs.Ytggngbbkachpaaa.CrcPlain
theorem tdiv_nat (n : Nat) : wrap64 (Int.tdiv (n : Int) 256) = ((n / 256 : Nat) : Int) ∨ 9223372036854775808 ≤ n := by
  by_cases h : n < 9223372036854775808
  · left
    rw [Int.tdiv_eq_ediv_of_nonneg (by omega)]
    unfold wrap64; omega
  · right; omega
theorem byte_nat (n : Nat) : Int.tmod (n : Int) 256 % 256 = (((UInt8.ofNat (n % 256)).toNat : Nat) : Int) := by
  rw [Int.tmod_eq_emod_of_nonneg (by omega)]
  have : (UInt8.ofNat (n % 256)).toNat = n % 256 := by simp [UInt8.toNat_ofNat']
  rw [this]; omega
theorem put_loop (d : Nat) : ∀ (k n : Nat) (pre : List UInt8), n < 9223372036854775808 → pre.length + d ≤ 7 →
    wire_Put.l0 (k + d + 1) n (numsOf pre ++ List.replicate d 0) ((pre.length + d : Nat) : Int) ((pre.length : Nat) : Int) =
      some (if n / 256 ^ d > 0 then (bs [], 12) else (bs (pre ++ lowB d n), 0)) := by
  induction d with
  | zero =>
    intro k n pre hn hp
    simp only [wire_Put.l0]
    rw [if_neg (by omega)]
    by_cases h : 0 < n
    · rw [if_pos (by omega), if_pos (by simp; omega)]; rfl
    · rw [if_neg (by omega), if_neg (by simp; omega)]
      simp only [List.replicate_zero, List.append_nil, lowB, strOfNums_numsOf]
  | succ d ih =>
    intro k n pre hn hp
    rw [show k + (d + 1) + 1 = (k + d + 1) + 1 by omega, wire_Put.l0]
    have hl : (numsOf pre ++ List.replicate (d + 1) (0 : Int)).length = pre.length + d + 1 := by simp [numsOf_length]; omega
    rw [if_pos (by omega), if_pos (by omega), hl, if_pos (by omega)]
    rw [Int.toNat_natCast, byte_nat]
    have hw : wrap64 (Int.tdiv (n : Int) 256) = ((n / 256 : Nat) : Int) := (tdiv_nat n).resolve_right (by omega)
    have hs : wrap64 ((pre.length : Int) + 1) = ((pre.length + 1 : Nat) : Int) := by unfold wrap64; omega
    rw [hw, hs]
    have hset : (numsOf pre ++ List.replicate (d + 1) (0 : Int)).set pre.length (((UInt8.ofNat (n % 256)).toNat : Nat) : Int) = numsOf (pre ++ [UInt8.ofNat (n % 256)]) ++ List.replicate d 0 := by
      rw [List.set_append_right _ _ (by rw [numsOf_length]; omega), numsOf_length, Nat.sub_self, List.replicate_succ, List.set_cons_zero]
      simp [numsOf]
    rw [hset]
    have := ih k (n / 256) (pre ++ [UInt8.ofNat (n % 256)]) (by omega) (by simp; omega)
    rw [List.length_append, List.length_singleton, show pre.length + 1 + d = pre.length + (d + 1) by omega] at this
    rw [this, Nat.div_div_eq_div_mul, show 256 * 256 ^ d = 256 ^ (d + 1) by rw [Nat.pow_succ, Nat.mul_comm]]
    simp only [lowB, List.append_assoc, List.singleton_append]
theorem wire_Put_f (k : Nat) (hk : 10 ≤ k) (n size : Int) (h0 : -9223372036854775808 ≤ n) (h1 : n < 9223372036854775808) : wire_Put.f k n size = some (bs (putL n size).1, (putL n size).2) := by
  obtain ⟨k, rfl⟩ : ∃ m, k = m + 10 := ⟨k - 10, by omega⟩
  unfold wire_Put.f putL
  by_cases hs : size < 1
  · rw [if_pos hs, if_pos (.inl hs)]; simp only [wire_Put.j0]; rw [if_pos trivial]; rfl
  · rw [if_neg hs]
    by_cases hs7 : size > 7
    · rw [if_pos hs7, if_pos (.inr (.inl hs7))]; simp only [wire_Put.j0]; rw [if_pos trivial]; rfl
    · rw [if_neg hs7]
      simp only [wire_Put.j0]
      by_cases hn : n < 0
      · rw [if_pos (by simpa using hn), if_pos (.inr (.inr hn))]; rfl
      · obtain ⟨s, rfl⟩ := Int.eq_ofNat_of_zero_le (show 0 ≤ size by omega)
        obtain ⟨m, rfl⟩ := Int.eq_ofNat_of_zero_le (show 0 ≤ n by omega)
        rw [if_neg (by simp), if_pos (by omega), if_pos (by omega), if_neg (by omega)]
        simp only [Option.bind_some, Int.toNat_natCast, List.length_replicate]
        have := put_loop s (k + 8 - s) m [] (by omega) (by simp; omega)
        simp only [numsOf, List.map_nil, List.nil_append, List.length_nil, Nat.zero_add] at this
        rw [show k + 8 - s + s + 1 = k + 9 by omega] at this
        rw [show ((0 : Nat) : Int) = 0 from rfl] at this
        rw [this]
        by_cases hb : m / 256 ^ s > 0
        · rw [if_pos hb, if_pos hb]
        · rw [if_neg hb, if_neg hb]
theorem wire_Cut_f (l : List UInt8) (size : Int) (h : l.length ≤ 281474976710656) : wire_Cut.f (bs l) size = some ((cutL l size).1, bs (cutL l size).2.1, (cutL l size).2.2) := by
  unfold wire_Cut.f cutL
  rw [bs_size, if_pos h]
  by_cases h1 : size < 1
  · rw [if_pos h1, if_pos (.inl h1)]; rfl
  · rw [if_neg h1]
    by_cases h2 : 7 < size
    · rw [if_pos h2, if_pos (.inr h2)]; rfl
    · have h4 : ¬ (size < 1 ∨ 7 < size) := by omega
      rw [if_neg h2, if_neg h4]
      by_cases h3 : (l.length : Int) < size
      · rw [if_pos h3, if_pos h3]; rfl
      · rw [if_neg h3, if_neg h3, bs_data, bs_extract_end]
theorem wire_Text_f (k : Nat) (hk : 10 ≤ k) (l : List UInt8) (h : l.length ≤ 281474976710656) : wire_Text.f k (bs l) = some (bs (textL l).1, (textL l).2) := by
  unfold wire_Text.f textL
  rw [bs_size, wire_Put_f k hk _ _ (by omega) (by omega), Option.bind_some]
  have e2 : (256 : Nat) ^ 2 = 65536 := by decide
  by_cases hl : l.length < 65536
  · have hp := putL_ok (n := l.length) (s := 2) (by decide) (by decide) (by omega)
    rw [show ((2 : Nat) : Int) = 2 from rfl] at hp
    rw [hp, if_pos rfl, if_pos hl]
    have hb := lowB_length 2 l.length
    rw [if_pos (by rw [bs_size, hb]; omega), bs_append]
  · have hp : putL l.length 2 = ([], 12) := by
      unfold putL
      rw [if_neg (by omega), if_pos ?_]
      have : l.length / 65536 > 0 := Nat.div_pos (by omega) (by decide)
      simpa [e2] using this
    rw [hp, if_neg (by decide), if_neg hl]; rfl
theorem wire_Take_f (l : List UInt8) (h : l.length ≤ 281474976710656) : wire_Take.f (bs l) = some (bs (takeL l).1, bs (takeL l).2.1, (takeL l).2.2) := by
  unfold wire_Take.f takeL
  rw [wire_Cut_f l 2 h, Option.bind_some]
  by_cases h2 : l.length < 2
  · have hc : cutL l 2 = (0, [], 4) := by unfold cutL; rw [if_neg (by omega), if_pos (by omega)]
    rw [hc, if_neg (by decide), if_pos h2]; rfl
  · have hc : cutL l 2 = (((lowN (l.take 2) : Nat) : Int), l.drop 2, 0) := cutL_ok (s := 2) (by decide) (by decide) (by omega)
    rw [hc, if_pos rfl, if_neg h2]
    simp only [bs_size, List.length_drop]
    by_cases h3 : l.length - 2 < lowN (l.take 2)
    · rw [if_pos (by omega), if_pos h3]; rfl
    · rw [if_neg (by omega), if_neg h3, if_pos (by omega), if_pos (by omega)]
      rw [Int.toNat_natCast, bs_extract_zero, ← List.length_drop, bs_extract_end]
theorem key_runes_f (l : List UInt8) (h : l.length ≤ 1000000) : key_runes.f (bs l) = some (runesR l) := by
  unfold key_runes.f; rw [bs_size, if_pos h, bs_data]
def badR (x : Int) : Bool := decide (x < 32) || x == 127
def checkR (p : List Int × Bool) : Int := if p.2 = true ∧ p.1 ≠ [] ∧ p.1.length ≤ 64 then (if p.1.any badR then 7 else 0) else 7
theorem rd_at (xs : List Int) (i : Nat) (h : i < xs.length) : rd xs (i : Int) = xs[i] := by
  unfold rd; rw [Int.toNat_natCast, List.getD_eq_getElem?_getD, List.getElem?_eq_getElem h]; rfl
theorem any_drop (xs : List Int) (i : Nat) (h : i < xs.length) : (xs.drop i).any badR = (badR xs[i] || (xs.drop (i + 1)).any badR) := by
  rw [List.drop_eq_getElem_cons h]; rfl
theorem check_loop (xs : List Int) (hx : xs.length ≤ 64) : ∀ d k i : Nat, i + d = xs.length → d + 1 ≤ k →
    key_Check.l0 k xs (xs.length : Int) (i : Int) = some (if (xs.drop i).any badR then 7 else 0)
  | 0, k, i, hi, hk => by
    obtain ⟨k, rfl⟩ : ∃ j, k = j + 1 := ⟨k - 1, by omega⟩
    rw [key_Check.l0, if_neg (by omega), List.drop_of_length_le (by omega)]; rfl
  | d + 1, k, i, hi, hk => by
    obtain ⟨k, rfl⟩ : ∃ j, k = j + 1 := ⟨k - 1, by omega⟩
    have hlt : i < xs.length := by omega
    rw [key_Check.l0, if_pos (by omega), if_pos (by omega), if_pos (by omega), rd_at xs i hlt, any_drop xs i hlt]
    have hw : wrap64 ((i : Int) + 1) = ((i + 1 : Nat) : Int) := wrap_succ i xs.length hlt (by omega)
    rw [hw, check_loop xs hx d k (i + 1) (by omega) (by omega)]
    unfold badR
    by_cases h1 : xs[i] < 32
    · simp [h1]
    · by_cases h2 : xs[i] = 127
      · simp [h2]
      · simp [h1, h2]
theorem key_Check_f (k : Nat) (hk : 70 ≤ k) (l : List UInt8) (h : l.length ≤ 1000000) : key_Check.f k (bs l) = some (checkR (runesR l)) := by
  obtain ⟨k, rfl⟩ : ∃ j, k = j + 1 := ⟨k - 1, by omega⟩
  unfold key_Check.f checkR
  rw [key_runes_f l h]
  simp only [Option.bind_some]
  generalize runesR l = p
  obtain ⟨xs, b⟩ := p
  simp only
  by_cases hb : b = true
  · rw [if_pos hb]
    by_cases h0 : xs = []
    · subst h0; simp [key_Check.j0]
    · have hl : ¬ ((xs.length : Int) = 0) := by
        intro e; exact h0 (List.eq_nil_of_length_eq_zero (by omega))
      rw [if_neg hl]
      by_cases h64 : xs.length ≤ 64
      · have hd : decide ((xs.length : Int) > 64) = false := by simp; omega
        rw [hd, if_pos ⟨hb, h0, h64⟩, key_Check.j0, if_neg (by decide)]
        have := check_loop xs h64 xs.length k 0 (by omega) (by omega)
        rw [List.drop_zero] at this
        exact this
      · have hd : decide ((xs.length : Int) > 64) = true := by simp; omega
        rw [hd, if_neg (fun h => h64 h.2.2), key_Check.j0, if_pos rfl]
  · rw [if_neg hb, if_neg (fun h => hb h.1), key_Check.j0, if_pos rfl]
theorem bt_at_drop (l : List UInt8) (p j : Nat) (h : p + j < l.length) : bt (bs l) ((p + j : Nat) : Int) = ((gN (l.drop p) j : Nat) : Int) := by
  rw [bt_bs l (p + j) h, ← gN_drop]
  unfold gN
  rw [List.getD_eq_getElem?_getD, List.getElem?_eq_getElem h]; rfl
theorem bt_at_0 (l : List UInt8) (p : Nat) (h : p < l.length) : bt (bs l) (p : Int) = ((gN (l.drop p) 0 : Nat) : Int) := bt_at_drop l p 0 (by omega)
theorem tmod_nat (a b : Nat) : Int.tmod (a : Int) (b : Int) = ((a % b : Nat) : Int) := by
  rw [Int.tmod_eq_emod_of_nonneg (by omega)]; omega
theorem more_f (k c : Nat) : sheetpileref08_more.f (k + 2) (c : Int) = some (if c < 128 then 0 else if 192 ≤ c ∧ c < 224 then 1 else if 224 ≤ c ∧ c < 240 then 2 else if 240 ≤ c ∧ c < 248 then 3 else -1) := by
  unfold sheetpileref08_more.f
  by_cases h1 : c < 128
  · rw [if_pos (by omega), if_pos h1]
  · rw [if_neg (by omega), if_neg h1]
    by_cases h2 : 192 ≤ c ∧ c < 224
    · have d : decide ((c : Int) < 224) = true := by simp; omega
      rw [if_pos (by omega), if_pos h2, d, sheetpileref08_more.j0, if_pos rfl]
    · rw [if_neg h2]
      have e : (if (c : Int) ≥ 192 then sheetpileref08_more.j0 (k + 2) (c : Int) (decide ((c : Int) < 224)) else sheetpileref08_more.j0 (k + 2) (c : Int) false) = sheetpileref08_more.j0 (k + 2) (c : Int) false := by
        by_cases h : (c : Int) ≥ 192
        · have d : decide ((c : Int) < 224) = false := by simp; omega
          rw [if_pos h, d]
        · rw [if_neg h]
      rw [e, sheetpileref08_more.j0, if_neg (by decide)]
      by_cases h3 : 224 ≤ c ∧ c < 240
      · have d : decide ((c : Int) < 240) = true := by simp; omega
        rw [if_pos (by omega), if_pos h3, d, sheetpileref08_more.j1, if_pos rfl]
      · rw [if_neg h3]
        have e : (if (c : Int) ≥ 224 then sheetpileref08_more.j1 (k + 1) (c : Int) (decide ((c : Int) < 240)) else sheetpileref08_more.j1 (k + 1) (c : Int) false) = sheetpileref08_more.j1 (k + 1) (c : Int) false := by
          by_cases h : (c : Int) ≥ 224
          · have d : decide ((c : Int) < 240) = false := by simp; omega
            rw [if_pos h, d]
          · rw [if_neg h]
        rw [e, sheetpileref08_more.j1, if_neg (by decide)]
        by_cases h4 : 240 ≤ c ∧ c < 248
        · rw [if_pos (by omega), if_pos (by omega), if_pos h4]
        · rw [if_neg h4]
          by_cases h : (c : Int) ≥ 240
          · rw [if_pos h, if_neg (by omega)]
          · rw [if_neg h]
def fitsN (x n : Nat) : Bool := if n = 0 then true else if n = 1 then decide (128 ≤ x) else if n = 2 then decide (2048 ≤ x) && (decide (x < 55296) || decide (57343 < x)) else decide (65536 ≤ x) && decide (x ≤ 1114111)
theorem fits_f (x n : Nat) : sheetpileref08_fits.f (x : Int) (n : Int) = some (fitsN x n) := by
  unfold sheetpileref08_fits.f fitsN
  by_cases h0 : n = 0
  · rw [if_pos (by omega), if_pos h0]
  · rw [if_neg (by omega), if_neg h0]
    by_cases h1 : n = 1
    · rw [if_pos (by omega), if_pos h1]; congr 1; rw [Bool.eq_iff_iff]; simp; omega
    · rw [if_neg (by omega), if_neg h1]
      by_cases h2 : n = 2
      · rw [if_pos (by omega), if_pos h2]
        by_cases h3 : 2048 ≤ x
        · rw [if_pos (by omega)]
          by_cases h4 : x < 55296
          · rw [if_pos (by omega)]; simp [h3, h4]
          · rw [if_neg (by omega)]; congr 1; rw [Bool.eq_iff_iff]; simp; omega
        · rw [if_neg (by omega)]; simp [h3]
      · rw [if_neg (by omega), if_neg h2]
        by_cases h3 : 65536 ≤ x
        · rw [if_pos (by omega)]; congr 1; rw [Bool.eq_iff_iff]; simp; omega
        · rw [if_neg (by omega)]; simp [h3]
theorem first_f (c n : Nat) (hc : c < 256) : sheetpileref08_first.f (c : Int) (n : Int) = some (((if n = 0 then c else if n = 1 then c % 32 else if n = 2 then c % 16 else c % 8 : Nat)) : Int) := by
  unfold sheetpileref08_first.f
  rw [wrap_id (by omega) (by omega)]
  by_cases h0 : n = 0
  · rw [if_pos (by omega), if_pos h0]
  · rw [if_neg (by omega), if_neg h0]
    by_cases h1 : n = 1
    · rw [if_pos (by omega), if_pos h1]; exact congrArg some (tmod_nat c 32)
    · rw [if_neg (by omega), if_neg h1]
      by_cases h2 : n = 2
      · rw [if_pos (by omega), if_pos h2]; exact congrArg some (tmod_nat c 16)
      · rw [if_neg (by omega), if_neg h2]; exact congrArg some (tmod_nat c 8)
theorem l1_step (k : Nat) (l : List UInt8) (xs : List Int) (p n x j : Nat) (hj : j ≤ n) (hp : p + j < l.length) (hl : l.length ≤ 1000000) (hx : x < 1000000000000) :
    sheetpileref08_Runes.l1 (k + 1) (bs l) xs (p : Int) (n : Int) (x : Int) (j : Int) =
      if gN (l.drop p) j / 64 = 2 then sheetpileref08_Runes.l1 k (bs l) xs (p : Int) (n : Int) ((x * 64 + gN (l.drop p) j % 64 : Nat) : Int) ((j + 1 : Nat) : Int) else some ([], false) := by
  have w1 : wrap64 ((p : Int) + (j : Int)) = ((p + j : Nat) : Int) := by rw [wrap_id (by omega) (by omega)]; omega
  have w2 : wrap64 ((j : Int) + 1) = ((j + 1 : Nat) : Int) := by rw [wrap_id (by omega) (by omega)]; omega
  have g := gN_lt (l.drop p) j
  rw [sheetpileref08_Runes.l1, if_pos (by omega), w1, bs_size, if_pos (by omega), if_pos (by omega), bt_at_drop l p j hp, w2]
  by_cases c1 : gN (l.drop p) j < 128
  · rw [if_pos (by omega), if_neg (by omega)]
  · rw [if_neg (by omega)]
    by_cases c2 : gN (l.drop p) j > 191
    · rw [if_pos (by omega), if_neg (by omega)]
    · rw [if_neg (by omega), if_pos (by omega)]
      congr 1
      rw [wrap_id (a := ((gN (l.drop p) j : Nat) : Int)) (by omega) (by omega)]
      have := tmod_nat (gN (l.drop p) j) 64
      rw [show ((64 : Nat) : Int) = 64 from rfl] at this
      rw [this, wrap_id (a := 64 * (x : Int)) (by omega) (by omega), wrap_id (by omega) (by omega)]
      omega
theorem l1_end (k : Nat) (l : List UInt8) (xs : List Int) (p n x : Nat) (hp : p + n < l.length) (hl : l.length ≤ 1000000) (hxs : xs.length ≤ 1000000) :
    sheetpileref08_Runes.l1 (k + 1) (bs l) xs (p : Int) (n : Int) (x : Int) ((n + 1 : Nat) : Int) =
      if fitsN x n = true then sheetpileref08_Runes.l0 k (bs l) (xs ++ [(x : Int)]) ((p + (n + 1) : Nat) : Int) else some ([], false) := by
  have w1 : wrap64 ((p : Int) + (n : Int)) = ((p + n : Nat) : Int) := by rw [wrap_id (by omega) (by omega)]; omega
  have w2 : wrap64 (((p + n : Nat) : Int) + 1) = ((p + (n + 1) : Nat) : Int) := by rw [wrap_id (by omega) (by omega)]; omega
  rw [sheetpileref08_Runes.l1, if_neg (by omega), fits_f, w1, w2, if_pos (show xs.length < 17592186044416 by omega)]
  rfl
def firstN (c n : Nat) : Nat := if n = 0 then c else if n = 1 then c % 32 else if n = 2 then c % 16 else c % 8
theorem l0_head (k : Nat) (l : List UInt8) (xs : List Int) (p : Nat) (n x : Nat) (hl : l.length ≤ 1000000)
    (hp : p < l.length) (hm : sheetpileref08_more.f (k + 2) ((gN (l.drop p) 0 : Nat) : Int) = some ((n : Nat) : Int)) (hn : n ≤ 3) (hx : firstN (gN (l.drop p) 0) n = x) :
    sheetpileref08_Runes.l0 (k + 3) (bs l) xs (p : Int) =
      if p + n < l.length then sheetpileref08_Runes.l1 (k + 1) (bs l) xs (p : Int) (n : Int) (x : Int) ((1 : Nat) : Int) else some ([], false) := by
  have w1 : wrap64 ((p : Int) + (n : Int)) = ((p + n : Nat) : Int) := by rw [wrap_id (by omega) (by omega)]; omega
  have hf := first_f (gN (l.drop p) 0) n (gN_lt _ _)
  have hx2 : (if n = 0 then gN (l.drop p) 0 else if n = 1 then gN (l.drop p) 0 % 32 else if n = 2 then gN (l.drop p) 0 % 16 else gN (l.drop p) 0 % 8) = x := hx
  rw [hx2] at hf
  have hb := bt_at_0 l p hp
  generalize gN (l.drop p) 0 = c at hm hf hb
  clear hx hx2
  rw [sheetpileref08_Runes.l0, bs_size, if_pos (by omega), if_pos (by omega), hb, hm, Option.bind_some, if_neg (by omega), w1]
  clear hm w1
  by_cases h : p + n < l.length
  · have d : decide (((p + n : Nat) : Int) ≥ (l.length : Int)) = false := by simp; omega
    rw [if_pos h, d, sheetpileref08_Runes.j1, if_neg Bool.false_ne_true, if_pos (by omega), bs_size, if_pos (by omega), hb, hf, Option.bind_some, Int.natCast_one]
  · have d : decide (((p + n : Nat) : Int) ≥ (l.length : Int)) = true := by simp; omega
    rw [if_neg h, d, sheetpileref08_Runes.j1, if_pos rfl]
theorem ref_runes : ∀ (m p k : Nat) (l : List UInt8) (xs : List Nat), l.length ≤ 1000000 → xs.length ≤ p → p + m = l.length → 3 * m + 10 ≤ k →
    sheetpileref08_Runes.l0 k (bs l) (intsOf xs) (p : Int) = some (match runesL (l.drop p) with | none => ([], false) | some ys => (intsOf (xs ++ ys), true)) := by
  intro m
  induction m using Nat.strongRecOn with
  | _ m ih =>
    intro p k l xs hl hxs hp hk
    have hxl : (intsOf xs).length ≤ 1000000 := by simp [intsOf]; omega
    have hia : ∀ x : Nat, intsOf xs ++ [(x : Int)] = intsOf (xs ++ [x]) := by intro x; simp [intsOf]
    by_cases hm : m = 0
    · obtain ⟨k, rfl⟩ : ∃ j, k = j + 1 := ⟨k - 1, by omega⟩
      rw [sheetpileref08_Runes.l0, bs_size, if_neg (by omega), List.drop_of_length_le (by omega), runesL_nil]
      simp
    · have hlt : p < l.length := by omega
      have hne : l.drop p ≠ [] := by simp; omega
      have hdl : (l.drop p).length = l.length - p := List.length_drop
      obtain ⟨D, hD⟩ : ∃ D, D = l.drop p := ⟨_, rfl⟩
      rw [← hD] at hne hdl ⊢
      have cn : ∀ j, cN D j = true ↔ p + j < l.length ∧ gN D j / 64 = 2 := by intro j; rw [cN_spec, hdl]; omega
      have fin : ∀ (q : Nat) (x n : Nat), dec1 D = some (x, n + 1) → p + n < l.length → 3 * (m - (n + 1)) + 10 ≤ q →
          sheetpileref08_Runes.l0 q (bs l) (intsOf xs ++ [(x : Int)]) ((p + (n + 1) : Nat) : Int) = some (match runesL D with | none => ([], false) | some ys => (intsOf (xs ++ ys), true)) := by
        intro q x n hd hn hq
        rw [hia, ih (m - (n + 1)) (by omega) (p + (n + 1)) q l (xs ++ [x]) hl (by simp; omega) (by omega) hq, runesL_some hne hd, hD, List.drop_drop]
        cases runesL (l.drop (p + (n + 1))) <;> simp
      have bad : dec1 D = none → some (([] : List Int), false) = some (match runesL D with | none => ([], false) | some ys => (intsOf (xs ++ ys), true)) := by
        intro hd; rw [runesL_none hne hd]
      have g0 := gN_lt D 0
      have g1 := gN_lt D 1
      have g2 := gN_lt D 2
      have g3 := gN_lt D 3
      obtain ⟨k, rfl⟩ : ∃ j, k = j + 7 := ⟨k - 7, by omega⟩
      have hmf := more_f (k + 4) (gN D 0)
      by_cases c0 : gN D 0 < 128
      · rw [if_pos c0] at hmf
        have hd : dec1 D = some (gN D 0, 0 + 1) := by unfold dec1; rw [if_pos c0]
        rw [l0_head (k + 4) l (intsOf xs) p 0 (gN D 0) hl hlt (by rw [← hD]; exact hmf) (by omega) (by rw [← hD]; rfl), if_pos (by omega)]
        have := l1_end (k + 4) l (intsOf xs) p 0 (gN D 0) (by omega) hl hxl
        rw [this, if_pos (by rfl)]
        exact fin (k + 4) _ 0 hd (by omega) (by omega)
      · rw [if_neg c0] at hmf
        by_cases c1 : 192 ≤ gN D 0 ∧ gN D 0 < 224
        · rw [if_pos c1] at hmf
          rw [l0_head (k + 4) l (intsOf xs) p 1 (gN D 0 % 32) hl hlt (by rw [← hD]; exact hmf) (by omega) (by rw [← hD]; rfl)]
          have hdu : dec1 D = if cN D 1 = true then (if 128 ≤ gN D 0 % 32 * 64 + gN D 1 % 64 then some (gN D 0 % 32 * 64 + gN D 1 % 64, 2) else none) else none := by
            unfold dec1
            have e1 : (gN D 0 / 32 == 6) = true := by simp; omega
            have e2 : (gN D 0 / 16 == 14) = false := by simp; omega
            have e3 : (gN D 0 / 8 == 30) = false := by simp; omega
            rw [if_neg c0, e1, e2, e3]
            simp only [Bool.true_and, Bool.false_and, Bool.false_eq_true, if_false]
          by_cases h1 : p + 1 < l.length
          · rw [if_pos h1, l1_step (k + 4) l (intsOf xs) p 1 (gN D 0 % 32) 1 (by omega) h1 hl (by omega), ← hD]
            by_cases t1 : gN D 1 / 64 = 2
            · rw [if_pos t1, l1_end (k + 3) l (intsOf xs) p 1 _ h1 hl hxl]
              rw [if_pos ((cn 1).2 ⟨h1, t1⟩)] at hdu
              by_cases t2 : 128 ≤ gN D 0 % 32 * 64 + gN D 1 % 64
              · rw [if_pos t2] at hdu
                rw [if_pos (by simp [fitsN]; omega)]
                exact fin (k + 3) _ 1 hdu h1 (by omega)
              · rw [if_neg t2] at hdu
                rw [if_neg (by simp [fitsN]; omega)]
                exact bad hdu
            · rw [if_neg t1]
              rw [if_neg (fun h => t1 ((cn 1).1 h).2)] at hdu
              exact bad hdu
          · rw [if_neg h1]
            rw [if_neg (fun h => h1 ((cn 1).1 h).1)] at hdu
            exact bad hdu
        · rw [if_neg c1] at hmf
          by_cases c2 : 224 ≤ gN D 0 ∧ gN D 0 < 240
          · rw [if_pos c2] at hmf
            rw [l0_head (k + 4) l (intsOf xs) p 2 (gN D 0 % 16) hl hlt (by rw [← hD]; exact hmf) (by omega) (by rw [← hD]; rfl)]
            have hdu : dec1 D = if cN D 1 = true ∧ cN D 2 = true then (if 2048 ≤ gN D 0 % 16 * 4096 + gN D 1 % 64 * 64 + gN D 2 % 64 ∧ okR (gN D 0 % 16 * 4096 + gN D 1 % 64 * 64 + gN D 2 % 64) then some (gN D 0 % 16 * 4096 + gN D 1 % 64 * 64 + gN D 2 % 64, 3) else none) else none := by
              unfold dec1
              have e1 : (gN D 0 / 32 == 6) = false := by simp; omega
              have e2 : (gN D 0 / 16 == 14) = true := by simp; omega
              have e3 : (gN D 0 / 8 == 30) = false := by simp; omega
              rw [if_neg c0, e1, e2, e3]
              simp only [Bool.true_and, Bool.false_and, Bool.false_eq_true, if_false, Bool.and_eq_true]
            by_cases h2 : p + 2 < l.length
            · rw [if_pos h2, l1_step (k + 4) l (intsOf xs) p 2 (gN D 0 % 16) 1 (by omega) (by omega) hl (by omega), ← hD]
              by_cases t1 : gN D 1 / 64 = 2
              · rw [if_pos t1, l1_step (k + 3) l (intsOf xs) p 2 (gN D 0 % 16 * 64 + gN D 1 % 64) 2 (by omega) h2 hl (by omega), ← hD]
                by_cases t2 : gN D 2 / 64 = 2
                · rw [if_pos t2, l1_end (k + 2) l (intsOf xs) p 2 _ h2 hl hxl]
                  rw [if_pos ⟨(cn 1).2 ⟨by omega, t1⟩, (cn 2).2 ⟨h2, t2⟩⟩] at hdu
                  have ex : (gN D 0 % 16 * 64 + gN D 1 % 64) * 64 + gN D 2 % 64 = gN D 0 % 16 * 4096 + gN D 1 % 64 * 64 + gN D 2 % 64 := by omega
                  rw [ex]
                  have hX : gN D 0 % 16 * 4096 + gN D 1 % 64 * 64 + gN D 2 % 64 < 1114112 := by omega
                  generalize gN D 0 % 16 * 4096 + gN D 1 % 64 * 64 + gN D 2 % 64 = X at hdu hX ⊢
                  by_cases t3 : 2048 ≤ X ∧ okR X
                  · rw [if_pos t3] at hdu
                    have hf : fitsN X 2 = true := by unfold okR at t3; simp [fitsN]; omega
                    rw [if_pos hf]
                    exact fin (k + 2) _ 2 hdu h2 (by omega)
                  · rw [if_neg t3] at hdu
                    have hf : ¬ fitsN X 2 = true := by unfold okR at t3; simp [fitsN]; omega
                    rw [if_neg hf]
                    exact bad hdu
                · rw [if_neg t2]
                  rw [if_neg (fun h => t2 ((cn 2).1 h.2).2)] at hdu
                  exact bad hdu
              · rw [if_neg t1]
                rw [if_neg (fun h => t1 ((cn 1).1 h.1).2)] at hdu
                exact bad hdu
            · rw [if_neg h2]
              rw [if_neg (fun h => h2 ((cn 2).1 h.2).1)] at hdu
              exact bad hdu
          · rw [if_neg c2] at hmf
            by_cases c3 : 240 ≤ gN D 0 ∧ gN D 0 < 248
            · rw [if_pos c3] at hmf
              rw [l0_head (k + 4) l (intsOf xs) p 3 (gN D 0 % 8) hl hlt (by rw [← hD]; exact hmf) (by omega) (by rw [← hD]; rfl)]
              have hdu : dec1 D = if (cN D 1 = true ∧ cN D 2 = true) ∧ cN D 3 = true then (if 65536 ≤ gN D 0 % 8 * 262144 + gN D 1 % 64 * 4096 + gN D 2 % 64 * 64 + gN D 3 % 64 ∧ okR (gN D 0 % 8 * 262144 + gN D 1 % 64 * 4096 + gN D 2 % 64 * 64 + gN D 3 % 64) then some (gN D 0 % 8 * 262144 + gN D 1 % 64 * 4096 + gN D 2 % 64 * 64 + gN D 3 % 64, 4) else none) else none := by
                unfold dec1
                have e1 : (gN D 0 / 32 == 6) = false := by simp; omega
                have e2 : (gN D 0 / 16 == 14) = false := by simp; omega
                have e3 : (gN D 0 / 8 == 30) = true := by simp; omega
                rw [if_neg c0, e1, e2, e3]
                simp only [Bool.true_and, Bool.false_and, Bool.false_eq_true, if_false, Bool.and_eq_true]
              by_cases h3 : p + 3 < l.length
              · rw [if_pos h3, l1_step (k + 4) l (intsOf xs) p 3 (gN D 0 % 8) 1 (by omega) (by omega) hl (by omega), ← hD]
                by_cases t1 : gN D 1 / 64 = 2
                · rw [if_pos t1, l1_step (k + 3) l (intsOf xs) p 3 (gN D 0 % 8 * 64 + gN D 1 % 64) 2 (by omega) (by omega) hl (by omega), ← hD]
                  by_cases t2 : gN D 2 / 64 = 2
                  · rw [if_pos t2, l1_step (k + 2) l (intsOf xs) p 3 ((gN D 0 % 8 * 64 + gN D 1 % 64) * 64 + gN D 2 % 64) 3 (by omega) h3 hl (by omega), ← hD]
                    by_cases t3 : gN D 3 / 64 = 2
                    · rw [if_pos t3, l1_end (k + 1) l (intsOf xs) p 3 _ h3 hl hxl]
                      rw [if_pos ⟨⟨(cn 1).2 ⟨by omega, t1⟩, (cn 2).2 ⟨by omega, t2⟩⟩, (cn 3).2 ⟨h3, t3⟩⟩] at hdu
                      have ex : ((gN D 0 % 8 * 64 + gN D 1 % 64) * 64 + gN D 2 % 64) * 64 + gN D 3 % 64 = gN D 0 % 8 * 262144 + gN D 1 % 64 * 4096 + gN D 2 % 64 * 64 + gN D 3 % 64 := by omega
                      rw [ex]
                      generalize gN D 0 % 8 * 262144 + gN D 1 % 64 * 4096 + gN D 2 % 64 * 64 + gN D 3 % 64 = X at hdu ⊢
                      by_cases t4 : 65536 ≤ X ∧ okR X
                      · rw [if_pos t4] at hdu
                        have hf : fitsN X 3 = true := by unfold okR at t4; simp [fitsN]; omega
                        rw [if_pos hf]
                        exact fin (k + 1) _ 3 hdu h3 (by omega)
                      · rw [if_neg t4] at hdu
                        have hf : ¬ fitsN X 3 = true := by unfold okR at t4; simp [fitsN]; omega
                        rw [if_neg hf]
                        exact bad hdu
                    · rw [if_neg t3]
                      rw [if_neg (fun h => t3 ((cn 3).1 h.2).2)] at hdu
                      exact bad hdu
                  · rw [if_neg t2]
                    rw [if_neg (fun h => t2 ((cn 2).1 h.1.2).2)] at hdu
                    exact bad hdu
                · rw [if_neg t1]
                  rw [if_neg (fun h => t1 ((cn 1).1 h.1.1).2)] at hdu
                  exact bad hdu
              · rw [if_neg h3]
                rw [if_neg (fun h => h3 ((cn 3).1 h.2).1)] at hdu
                exact bad hdu
            · rw [if_neg c3] at hmf
              have hd : dec1 D = none := by
                unfold dec1
                have e1 : (gN D 0 / 32 == 6) = false := by simp; omega
                have e2 : (gN D 0 / 16 == 14) = false := by simp; omega
                have e3 : (gN D 0 / 8 == 30) = false := by simp; omega
                rw [if_neg c0, e1, e2, e3]
                simp
              rw [sheetpileref08_Runes.l0, bs_size, if_pos (by omega), if_pos (by omega), bt_at_0 l p hlt, ← hD, hmf]
              simp only [Option.bind_some]
              rw [if_pos (by decide), sheetpileref08_Runes.j1, if_pos rfl]
              exact bad hd
theorem ref_Runes_f (l : List UInt8) (h : l.length ≤ 1000000) (k : Nat) (hk : 3 * l.length + 10 ≤ k) : sheetpileref08_Runes.f k (bs l) = some (runesR l) := by
  unfold sheetpileref08_Runes.f
  have := ref_runes l.length 0 k l [] h (by simp) (by omega) hk
  rw [List.drop_zero] at this
  refine this.trans ?_
  unfold runesR
  cases runesL l <;> simp
theorem ref_check_loop (xs : List Int) (hx : xs.length ≤ 64) : ∀ d k i : Nat, i + d = xs.length → d + 1 ≤ k →
    sheetpileref08_Check.l0 k xs (i : Int) = some (if (xs.drop i).any badR then 7 else 0)
  | 0, k, i, hi, hk => by
    obtain ⟨k, rfl⟩ : ∃ j, k = j + 1 := ⟨k - 1, by omega⟩
    rw [sheetpileref08_Check.l0, if_neg (by omega), List.drop_of_length_le (by omega)]; rfl
  | d + 1, k, i, hi, hk => by
    obtain ⟨k, rfl⟩ : ∃ j, k = j + 1 := ⟨k - 1, by omega⟩
    have hlt : i < xs.length := by omega
    rw [sheetpileref08_Check.l0, if_pos (by omega), if_pos (by omega), rd_at xs i hlt, any_drop xs i hlt]
    have hw : wrap64 ((i : Int) + 1) = ((i + 1 : Nat) : Int) := wrap_succ i xs.length hlt (by omega)
    rw [hw, ref_check_loop xs hx d k (i + 1) (by omega) (by omega)]
    unfold badR
    by_cases h1 : xs[i] < 32
    · simp [h1]
    · by_cases h2 : xs[i] = 127
      · simp [h2]
      · simp [h1, h2]
theorem ref_Check_f (l : List UInt8) (h : l.length ≤ 1000000) (k : Nat) (hk : 3 * l.length + 80 ≤ k) : sheetpileref08_Check.f k (bs l) = some (checkR (runesR l)) := by
  obtain ⟨k, rfl⟩ : ∃ j, k = j + 1 := ⟨k - 1, by omega⟩
  unfold sheetpileref08_Check.f checkR
  rw [ref_Runes_f l h _ (by omega)]
  simp only [Option.bind_some]
  generalize runesR l = p
  obtain ⟨xs, b⟩ := p
  simp only
  by_cases hb : b = true
  · rw [if_pos hb]
    by_cases h0 : xs = []
    · subst h0; simp [sheetpileref08_Check.j0]
    · have hl : ¬ ((xs.length : Int) = 0) := by
        intro e; exact h0 (List.eq_nil_of_length_eq_zero (by omega))
      rw [if_neg hl]
      by_cases h64 : xs.length ≤ 64
      · have hd : decide ((xs.length : Int) > 64) = false := by simp; omega
        rw [hd, if_pos ⟨hb, h0, h64⟩, sheetpileref08_Check.j0, if_neg (by decide)]
        have := ref_check_loop xs h64 xs.length k 0 (by omega) (by omega)
        rw [List.drop_zero] at this
        exact this
      · have hd : decide ((xs.length : Int) > 64) = true := by simp; omega
        rw [hd, if_neg (fun h => h64 h.2.2), sheetpileref08_Check.j0, if_pos rfl]
  · rw [if_neg hb, if_neg (fun h => hb h.1), sheetpileref08_Check.j0, if_pos rfl]
end Go.Proofs.Ytggngbbkachpaaa.Pure
namespace Go.Proofs.Ytggngbbkachpaaa.PureC
set_option linter.unusedVariables false
set_option linter.unusedSimpArgs false
open Go.RowKit Go.Proofs.Ytggngbbkachpaaa.PDi Go.Proofs.Ytggngbbkachpaaa.Given Go.Proofs.Ytggngbbkachpaaa.CrcPlain Go.Proofs.YtggngbbkachpaaaW.PrintWords Go.Proofs.YtggngbbkachpaaaW.PrintLast
theorem crc_More_f (a0 : Nat) (s : ByteArray) (h0 : a0 < 4294967296) (h1 : s.size ≤ 281474976710656) : crc_More.f a0 s = some ((more a0 s.data.toList : Nat) : Int) := by
  unfold crc_More.f
  rw [if_pos (by omega), if_pos (by omega), if_pos h1, Int.toNat_natCast]
theorem crc_Sum_f (s : ByteArray) (h1 : s.size ≤ 281474976710656) : crc_Sum.f s = some ((more 0 s.data.toList : Nat) : Int) := by
  unfold crc_Sum.f
  have := crc_More_f 0 s (by decide) h1
  rw [show ((0 : Nat) : Int) = 0 from rfl] at this
  rw [this]; rfl
theorem wrap_succ (i n : Nat) (h : i < n) (hn : n ≤ 281474976710656) : wrap64 ((i : Int) + 1) = ((i + 1 : Nat) : Int) := by
  unfold wrap64; omega
end Go.Proofs.Ytggngbbkachpaaa.PureC
namespace Go.Proofs.Ytggngbbkachpaaa.Pure
set_option linter.unusedVariables false
set_option linter.unusedSimpArgs false
open Go.RowKit Go.Proofs.Ytggngbbkachpaaa.PDi Go.Proofs.Ytggngbbkachpaaa.Given Go.Proofs.Ytggngbbkachpaaa.Bs Go.Proofs.Ytggngbbkachpaaa.WirePlain Go.Proofs.YtggngbbkachpaaaW.PrintWords Go.Proofs.YtggngbbkachpaaaW.PrintLast Go.Proofs.YtggngbbkachpaaaW.PrintMore Go.Proofs.Ytggngbbkachpaaa.KeyPlain Go.Proofs.Ytggngbbkachpaaa.RunesPlain Go.Proofs.Ytggngbbkachpaaa.CrcPlain
theorem rd_getC (l : List S42) (i : Nat) (h : i < l.length) : rd_T42 l (i : Int) = l[i] := by
  unfold rd_T42; rw [Int.toNat_natCast, List.getD_eq_getElem?_getD, List.getElem?_eq_getElem h]; rfl
def checkC (c : S42) : Int :=
  if checkR (runesR c.f0.data.toList) = 0 then (if (c.f1.size : Int) > 1024 then 12 else if c.f2 = true then (if c.f1.toList = [] then 0 else 1) else 0) else checkR (runesR c.f0.data.toList)
def checkAll : List S42 → Int
  | [] => 0
  | c :: l => if checkC c = 0 then checkAll l else checkC c
theorem checkAll_cons (c : S42) (l : List S42) : checkAll (c :: l) = if checkC c = 0 then checkAll l else checkC c := rfl
def checkL (l : List S42) : Int := if l.length > 64 then 12 else if checkAll l = 0 then (if l = [] then 1 else 0) else checkAll l
theorem check_end (l : List S42) : (if (l.length : Int) = 0 then some (1 : Int) else some 0) = some (if l = [] then 1 else 0) := by
  cases l <;> simp
  omega
theorem fcheck_loop (l : List S42) (hl : l.length ≤ 64) (hs : ∀ c ∈ l, c.f0.size ≤ 1000000) : ∀ (d k i : Nat), i + d = l.length →
    frame_Check.l0 (k + d + 71) l l (l.length : Int) (i : Int) = some (if checkAll (l.drop i) = 0 then (if l = [] then 1 else 0) else checkAll (l.drop i)) := by
  intro d
  induction d with
  | zero =>
    intro k i hi
    rw [List.drop_of_length_le (by omega), frame_Check.l0, if_neg (by omega), check_end]; rfl
  | succ d ih =>
    intro k i hi
    have hlt : i < l.length := by omega
    rw [show k + (d + 1) + 71 = (k + d + 71) + 1 by omega, frame_Check.l0, if_pos (by omega), if_pos (by omega), if_pos (by omega), rd_getC l i hlt, List.drop_eq_getElem_cons hlt]
    have hx : wrap64 ((i : Int) + 1) = ((i + 1 : Nat) : Int) := by rw [wrap_id (by omega) (by omega)]; omega
    rw [hx, ih k (i + 1) (by omega)]
    have hc := hs l[i] (List.getElem_mem hlt)
    generalize l[i] = c at *
    have hk := key_Check_f (k + d + 71) (by omega) c.f0.data.toList (by rw [data_length]; exact hc)
    rw [← bs_of] at hk
    rw [hk, Option.bind_some]
    simp only [checkAll_cons, checkC]
    by_cases h0 : checkR (runesR c.f0.data.toList) = 0
    · simp only [h0, if_true]
      by_cases h1 : (c.f1.size : Int) > 1024
      · simp [h1]
      · simp only [h1, if_false]
        by_cases h2 : c.f2 = true
        · simp only [h2, if_true]
          by_cases h3 : c.f1.toList = []
          · simp [h3]
          · simp [h3]
        · simp [h2]
    · simp only [h0, if_false]
theorem frame_Check_f (k : Nat) (hk : 140 ≤ k) (l : List S42) (hs : ∀ c ∈ l, c.f0.size ≤ 1000000) : frame_Check.f k l = some (checkL l) := by
  unfold frame_Check.f checkL
  by_cases hl : l.length > 64
  · rw [if_pos (by omega), if_pos hl]
  · rw [if_neg (by omega), if_neg hl]
    have := fcheck_loop l (by omega) hs l.length (k - l.length - 71) 0 (by omega)
    rw [show k - l.length - 71 + l.length + 71 = k by omega, List.drop_zero] at this
    rw [show ((0 : Nat) : Int) = 0 from rfl] at this
    rw [this]
theorem rcheck_loop (l : List S42) (hl : l.length ≤ 64) (M : Nat) (hM : M ≤ 1000000) (hs : ∀ c ∈ l, c.f0.size ≤ M) : ∀ (d k i : Nat), i + d = l.length →
    sheetpileref19_Check.l0 (k + d + 3 * M + 81) l (i : Int) = some (if checkAll (l.drop i) = 0 then (if l = [] then 1 else 0) else checkAll (l.drop i)) := by
  intro d
  induction d with
  | zero =>
    intro k i hi
    rw [List.drop_of_length_le (by omega), sheetpileref19_Check.l0, if_neg (by omega), check_end]; rfl
  | succ d ih =>
    intro k i hi
    have hlt : i < l.length := by omega
    rw [show k + (d + 1) + 3 * M + 81 = (k + d + 3 * M + 81) + 1 by omega, sheetpileref19_Check.l0, if_pos (by omega), if_pos (by omega), rd_getC l i hlt, List.drop_eq_getElem_cons hlt]
    have hx : wrap64 ((i : Int) + 1) = ((i + 1 : Nat) : Int) := by rw [wrap_id (by omega) (by omega)]; omega
    rw [hx, ih k (i + 1) (by omega)]
    have hc := hs l[i] (List.getElem_mem hlt)
    generalize l[i] = c at *
    have hk := ref_Check_f c.f0.data.toList (by rw [data_length]; omega) (k + d + 3 * M + 81) (by rw [data_length]; omega)
    rw [← bs_of] at hk
    rw [hk, Option.bind_some]
    simp only [checkAll_cons, checkC]
    by_cases h0 : checkR (runesR c.f0.data.toList) = 0
    · simp only [h0, if_true]
      by_cases h1 : (c.f1.size : Int) > 1024
      · simp [h1]
      · simp only [h1, if_false]
        by_cases h2 : c.f2 = true
        · simp only [h2, if_true]
          by_cases h3 : c.f1.toList = []
          · simp [h3]
          · simp [h3]
        · simp [h2]
    · simp only [h0, if_false]
theorem ref19_Check_f (M : Nat) (hM : M ≤ 1000000) (k : Nat) (hk : 3 * M + 150 ≤ k) (l : List S42) (hs : ∀ c ∈ l, c.f0.size ≤ M) : sheetpileref19_Check.f k l = some (checkL l) := by
  unfold sheetpileref19_Check.f checkL
  by_cases hl : l.length > 64
  · rw [if_pos (by omega), if_pos hl]
  · rw [if_neg (by omega), if_neg hl]
    have := rcheck_loop l (by omega) M hM hs l.length (k - l.length - 3 * M - 81) 0 (by omega)
    rw [show k - l.length - 3 * M - 81 + l.length + 3 * M + 81 = k by omega, List.drop_zero] at this
    rw [show ((0 : Nat) : Int) = 0 from rfl] at this
    rw [this]
theorem bl_irr : ∀ x : List UInt8, Op.bytesLess x x = false
  | [] => rfl
  | a :: x => by simp [Op.bytesLess, bl_irr x]
theorem u8_lt_iff (a b : UInt8) : a < b ↔ a.toNat < b.toNat := UInt8.lt_iff_toNat_lt
theorem bl_nil : ∀ x : List UInt8, Op.bytesLess x [] = false
  | [] => rfl
  | _ :: _ => rfl
theorem bl_trans : ∀ x y z : List UInt8, Op.bytesLess x y = true → Op.bytesLess y z = true → Op.bytesLess x z = true
  | _, y, [], _, h => by rw [bl_nil] at h; cases h
  | [], _, c :: z, _, _ => rfl
  | a :: x, [], c :: z, h, _ => by simp [Op.bytesLess] at h
  | a :: x, b :: y, c :: z, h, h2 => by
    simp only [Op.bytesLess, Bool.or_eq_true, Bool.and_eq_true, decide_eq_true_eq, beq_iff_eq] at h h2 ⊢
    rcases h with h | ⟨rfl, h⟩
    · rcases h2 with h2 | ⟨rfl, h2⟩
      · left; rw [u8_lt_iff] at *; omega
      · left; exact h
    · rcases h2 with h2 | ⟨rfl, h2⟩
      · left; exact h2
      · right; exact ⟨rfl, bl_trans x y z h h2⟩
theorem cmp_lt : ∀ x y : List UInt8, Lib.compareBytes x y < 0 ↔ Op.bytesLess x y = true
  | [], [] => by simp [Lib.compareBytes, Op.bytesLess]
  | [], _ :: _ => by simp [Lib.compareBytes, Op.bytesLess]
  | _ :: _, [] => by simp [Lib.compareBytes, Op.bytesLess]
  | a :: x, b :: y => by
    have ih := cmp_lt x y
    simp only [Lib.compareBytes, Op.bytesLess, Bool.or_eq_true, Bool.and_eq_true, decide_eq_true_eq, beq_iff_eq]
    by_cases h : a < b
    · simp [h]
    · by_cases h2 : b < a
      · have hne : a ≠ b := fun e => by subst e; exact h h2
        simp [h, h2, hne]
      · have he : a = b := by
          rw [u8_lt_iff] at h h2
          exact UInt8.toNat_inj.1 (by omega)
        subst he
        simp [h, ih]
theorem cmp_eq0 : ∀ x y : List UInt8, Lib.compareBytes x y = 0 ↔ x = y
  | [], [] => by simp [Lib.compareBytes]
  | [], _ :: _ => by simp [Lib.compareBytes]
  | _ :: _, [] => by simp [Lib.compareBytes]
  | a :: x, b :: y => by
    have ih := cmp_eq0 x y
    simp only [Lib.compareBytes]
    by_cases h : a < b
    · have hne : a ≠ b := fun e => by subst e; rw [u8_lt_iff] at h; omega
      simp [h, hne]
    · by_cases h2 : b < a
      · have hne : a ≠ b := fun e => by subst e; exact h h2
        simp [h, h2, hne]
      · have he : a = b := by
          rw [u8_lt_iff] at h h2
          exact UInt8.toNat_inj.1 (by omega)
        subst he
        simp [h, ih]
def kl (a b : ByteArray) : Bool := Op.bytesLess a.toList b.toList
theorem toList_inj {a b : ByteArray} : a.toList = b.toList ↔ a = b := by
  rw [ByteArray.toList_eq, ByteArray.toList_eq]
  constructor
  · intro h
    have : a.data = b.data := Array.toList_inj.1 h
    cases a; cases b; simp_all
  · rintro rfl; rfl
theorem kl_irr (a : ByteArray) : kl a a = false := bl_irr _
theorem kl_trans {a b c : ByteArray} (h : kl a b = true) (h2 : kl b c = true) : kl a c = true := bl_trans _ _ _ h h2
theorem cmpP_lt (p : S75) (key : ByteArray) : cmpP p key < 0 ↔ kl p.f0 key = true := by
  unfold cmpP kl
  rw [cmp_lt, ByteArray.toList_eq, ByteArray.toList_eq]
theorem cmpP_eq (p : S75) (key : ByteArray) : cmpP p key = 0 ↔ p.f0 = key := by
  unfold cmpP
  rw [cmp_eq0, ← ByteArray.toList_eq, ← ByteArray.toList_eq, toList_inj]
def Srt (l : List S75) : Prop := l.Pairwise (fun p q => kl p.f0 q.f0 = true)
def putC (p : S75) : S42 := ⟨p.f0, p.f1, false⟩
def aloneB (c : S42) : Bool := checkC c == 0
theorem check_one (c : S42) : (checkL [c] == 0) = aloneB c := by
  unfold checkL aloneB
  rw [if_neg (by simp)]
  simp only [checkAll]
  by_cases h : checkC c = 0
  · simp [h]
  · simp [h]
theorem dir_alone_f (k : Nat) (hk : 140 ≤ k) (a b : ByteArray) (g : Bool) (hs : a.size ≤ 1000000) : dir_alone.f k a b g = some (aloneB ⟨a, b, g⟩) := by
  unfold dir_alone.f
  rw [frame_Check_f k hk _ (by intro c hc; rw [List.mem_singleton.1 hc]; exact hs), Option.bind_some, check_one]
def prevB (o : Option ByteArray) (a : ByteArray) : Bool := match o with | none => true | some q => kl q a
def mayP : Option ByteArray → List S75 → Bool
  | _, [] => true
  | o, p :: l => prevB o p.f0 && aloneB (putC p) && mayP (some p.f0) l
def prevO (l : List S75) (i : Nat) : Option ByteArray := if h : 0 < i ∧ i - 1 < l.length then some (l[i - 1]'h.2).f0 else none
theorem wrap_up (i : Nat) (h : i < 1000000000000) : wrap64 ((i : Int) + 1) = ((i + 1 : Nat) : Int) := by rw [wrap_id (by omega) (by omega)]; omega
theorem wrap_dn (i : Nat) (h : i < 1000000000000) (h0 : 0 < i) : wrap64 ((i : Int) - 1) = ((i - 1 : Nat) : Int) := by rw [wrap_id (by omega) (by omega)]; omega
theorem prevO_succ (l : List S75) (i : Nat) (h : i < l.length) : prevO l (i + 1) = some l[i].f0 := by
  unfold prevO
  rw [dif_pos ⟨by omega, by simpa using h⟩]
  simp
theorem may_loop (l : List S75) (hl : l.length ≤ 1000000) (hs : ∀ p ∈ l, p.f0.size ≤ 1000000) : ∀ (d k i : Nat), i + d = l.length →
    dir_May.l0 (k + d + 141) l l (l.length : Int) (i : Int) = some (mayP (prevO l i) (l.drop i)) := by
  intro d
  induction d with
  | zero =>
    intro k i hi
    rw [List.drop_of_length_le (by omega), dir_May.l0, if_neg (by omega)]; rfl
  | succ d ih =>
    intro k i hi
    have hlt : i < l.length := by omega
    rw [show k + (d + 1) + 141 = (k + d + 141) + 1 by omega, dir_May.l0, if_pos (by omega), if_pos (by omega), if_pos (by omega), Given.rd_elem l i hlt, List.drop_eq_getElem_cons hlt, wrap_up i (by omega), ih k (i + 1) (by omega), prevO_succ l i hlt]
    have hc := hs l[i] (List.getElem_mem hlt)
    simp only [dir_put.f, Option.bind_some]
    rw [dir_alone_f (k + d + 141) (by omega) _ _ _ hc, Option.bind_some]
    show _ = some (prevB (prevO l i) l[i].f0 && aloneB (putC l[i]) && mayP (some l[i].f0) (l.drop (i + 1)))
    by_cases h0 : (i : Int) > 0
    · have hi1 : i - 1 < l.length := by omega
      rw [if_pos h0, wrap_dn i (by omega) (by omega), if_pos (by omega), if_pos (by omega), Given.rd_elem l (i - 1) hi1]
      have hp : prevB (prevO l i) l[i].f0 = Op.bytesLess l[i - 1].f0.toList l[i].f0.toList := by
        unfold prevO
        rw [dif_pos ⟨by omega, hi1⟩]
        rfl
      rw [hp]
      show _ = some (_ && aloneB ⟨l[i].f0, l[i].f1, false⟩ && _)
      cases Op.bytesLess l[i - 1].f0.toList l[i].f0.toList <;> cases aloneB ⟨l[i].f0, l[i].f1, false⟩ <;> simp
    · have hi0 : i = 0 := by omega
      have hp : prevB (prevO l i) l[i].f0 = true := by
        unfold prevO
        rw [dif_neg (by omega)]
        rfl
      rw [if_neg h0, hp]
      show _ = some (_ && aloneB ⟨l[i].f0, l[i].f1, false⟩ && _)
      cases aloneB ⟨l[i].f0, l[i].f1, false⟩ <;> simp
def mayL (l : List S75) : Bool := mayP none l
theorem prevO_zero (l : List S75) : prevO l 0 = none := by unfold prevO; rw [dif_neg (by omega)]
theorem dir_May_f (l : List S75) (hl : l.length ≤ 1000000) (hs : ∀ p ∈ l, p.f0.size ≤ 1000000) (k : Nat) (hk : l.length + 141 ≤ k) : dir_May.f k l = some (mayL l) := by
  unfold dir_May.f
  have := may_loop l hl hs l.length (k - l.length - 141) 0 (by omega)
  rw [show k - l.length - 141 + l.length + 141 = k by omega, List.drop_zero, prevO_zero, show ((0 : Nat) : Int) = 0 from rfl] at this
  exact this
theorem mayP_iff : ∀ (l : List S75) (o : Option ByteArray), mayP o l = true ↔ ((∀ p ∈ l, prevB o p.f0 = true) ∧ Srt l ∧ ∀ p ∈ l, aloneB (putC p) = true)
  | [], o => by simp [mayP, Srt]
  | p :: l, o => by
    have ih := mayP_iff l (some p.f0)
    simp only [mayP, Bool.and_eq_true, ih, List.mem_cons, forall_eq_or_imp, Srt, List.pairwise_cons]
    constructor
    · rintro ⟨⟨h1, h2⟩, h3, h4, h5⟩
      refine ⟨⟨h1, fun q hq => ?_⟩, ⟨h3, h4⟩, h2, h5⟩
      cases o with
      | none => rfl
      | some x => exact kl_trans h1 (h3 q hq)
    · rintro ⟨⟨h1, h1'⟩, ⟨h3, h4⟩, h2, h5⟩
      exact ⟨⟨h1, h2⟩, h3, h4, h5⟩
theorem mayL_iff (l : List S75) : mayL l = true ↔ (Srt l ∧ ∀ p ∈ l, aloneB (putC p) = true) := by
  unfold mayL
  rw [mayP_iff]
  constructor
  · rintro ⟨_, h⟩; exact h
  · intro h; exact ⟨fun _ _ => rfl, h⟩
theorem same_loop (l : List S75) (hl : l.length ≤ 10000000) (d : Nat) : ∀ (k i : Nat), i + d = l.length → sheetpileref21_Same.l0 (k + d + 1) l l (i : Int) = some true := by
  induction d with
  | zero => intro k i hi; rw [sheetpileref21_Same.l0, if_neg (by omega)]
  | succ d ih =>
    intro k i hi
    rw [show k + (d + 1) + 1 = (k + d + 1) + 1 by omega, sheetpileref21_Same.l0, if_pos (by omega), if_pos (by omega), if_pos (by omega), if_neg (by simp), wrap_up i (by omega)]
    exact ih k (i + 1) (by omega)
theorem same_f (l : List S75) (hl : l.length ≤ 10000000) (k : Nat) (hk : l.length + 1 ≤ k) : sheetpileref21_Same.f k l l = some true := by
  unfold sheetpileref21_Same.f
  rw [if_pos rfl]
  have := same_loop l hl l.length (k - l.length - 1) 0 (by omega)
  rw [show k - l.length - 1 + l.length + 1 = k by omega] at this
  exact this
def loF (key : ByteArray) (l : List S75) : List S75 := l.takeWhile (fun p => kl p.f0 key)
def hiF (key : ByteArray) (l : List S75) : List S75 := l.dropWhile (fun p => kl p.f0 key)
theorem lo_hi (key : ByteArray) (l : List S75) : loF key l ++ hiF key l = l := List.takeWhile_append_dropWhile
theorem lo_len (key : ByteArray) (l : List S75) : (loF key l).length ≤ l.length := by
  have := congrArg List.length (lo_hi key l)
  rw [List.length_append] at this
  omega
theorem lo_take (key : ByteArray) (l : List S75) : l.take (loF key l).length = loF key l := by
  have h := congrArg (List.take (loF key l).length) (lo_hi key l).symm
  rw [List.take_append_of_le_length (Nat.le_refl _), List.take_length] at h
  exact h
theorem lo_drop (key : ByteArray) (l : List S75) : l.drop (loF key l).length = hiF key l := by
  have h := congrArg (List.drop (loF key l).length) (lo_hi key l).symm
  rw [List.drop_append_of_le_length (Nat.le_refl _), List.drop_length] at h
  exact h
theorem tw_iff (key : ByteArray) : ∀ (l : List S75), Srt l → ∀ h (hh : h < l.length), kl (l[h]).f0 key = true ↔ h < (loF key l).length
  | [], _, h, hh => by simp at hh
  | p :: t, hs, h, hh => by
    have hs' := List.pairwise_cons.1 hs
    unfold loF
    rw [List.takeWhile_cons]
    cases hp : kl p.f0 key with
    | true =>
      cases h with
      | zero => simp [hp]
      | succ h =>
        have := tw_iff key t hs'.2 h (by simpa using hh)
        simp only [List.getElem_cons_succ, List.length_cons, Nat.add_lt_add_iff_right, if_true]
        exact this
    | false =>
      simp only [Bool.false_eq_true, if_false, List.length_nil, Nat.not_lt_zero, iff_false]
      cases h with
      | zero => simp [hp]
      | succ h =>
        intro hc
        simp only [List.getElem_cons_succ] at hc
        have h1 := hs'.1 _ (List.getElem_mem (by simpa using hh : h < t.length))
        rw [kl_trans h1 hc] at hp
        cases hp
theorem bs_at (key : ByteArray) (l : List S75) (hs : Srt l) : ∀ (n i j : Nat), i ≤ (loF key l).length → (loF key l).length ≤ j → j ≤ l.length → j - i ≤ n → bsF l key n i j = (loF key l).length
  | 0, i, j, h1, h2, h3, h4 => by simp only [bsF]; omega
  | n + 1, i, j, h1, h2, h3, h4 => by
    rw [bsF]
    by_cases c : i < j
    · rw [if_pos c]
      have hh : (i + j) / 2 < l.length := by omega
      have ht := tw_iff key l hs ((i + j) / 2) hh
      rw [Given.rd_elem l _ hh]
      by_cases hc : cmpP l[(i + j) / 2] key < 0
      · rw [if_pos hc]
        have := ht.1 ((cmpP_lt _ _).1 hc)
        exact bs_at key l hs n _ _ (by omega) h2 h3 (by omega)
      · rw [if_neg hc]
        have : ¬ (i + j) / 2 < (loF key l).length := fun h => hc ((cmpP_lt _ _).2 (ht.2 h))
        exact bs_at key l hs n _ _ h1 (by omega) (by omega) (by omega)
    · rw [if_neg c]; omega
theorem bs_lo (key : ByteArray) (l : List S75) (hs : Srt l) : bsF l key l.length 0 l.length = (loF key l).length := bs_at key l hs _ _ _ (Nat.zero_le _) (lo_len key l) (Nat.le_refl _) (by omega)
def isH (key : ByteArray) : List S75 → Bool
  | [] => false
  | p :: _ => p.f0.toList == key.toList
theorem isF_hi (key : ByteArray) (l : List S75) : isF l key (loF key l).length = isH key (hiF key l) := by
  unfold isF
  by_cases h : (loF key l).length < l.length
  · rw [decide_eq_true h, Bool.true_and, Given.rd_elem l _ h]
    have h1 := lo_drop key l
    rw [List.drop_eq_getElem_cons h] at h1
    rw [← h1]
    unfold isH
    rw [Bool.eq_iff_iff, beq_iff_eq, beq_iff_eq, cmpP_eq, toList_inj]
  · rw [decide_eq_false h, Bool.false_and]
    have h1 := lo_drop key l
    rw [List.drop_of_length_le (by omega)] at h1
    rw [← h1]; rfl
def restF (key : ByteArray) (l : List S75) : List S75 := if isH key (hiF key l) = true then (hiF key l).tail else hiF key l
/-- A change more, in one line. -/
def stepC (c : S42) (l : List S75) : List S75 := loF c.f0 l ++ ((if c.f2 = true then [] else [⟨c.f0, c.f1⟩]) ++ restF c.f0 l)
def stepA (c : S42) (l : List S75) : List S75 := if aloneB c = true then stepC c l else l
theorem stepF_f (K : Nat) (hK : 140 ≤ K) (l : List S75) (c : S42) (hs : Srt l) (hc : c.f0.size ≤ 1000000) : stepF K l c = some (stepA c l) := by
  unfold stepF stepA
  rw [dir_alone_f K hK _ _ _ hc, Option.bind_some]
  show (if aloneB c = true then _ else _) = _
  by_cases ha : aloneB c = true
  · rw [if_pos ha, if_pos ha, bs_lo c.f0 l hs, isF_hi]
    unfold stepC restF
    cases hi : isH c.f0 (hiF c.f0 l) with
    | true =>
      rw [if_pos rfl, if_pos rfl]
      have hne : hiF c.f0 l ≠ [] := by intro h; rw [h] at hi; cases hi
      have hlt : (loF c.f0 l).length < l.length := by
        have h1 := congrArg List.length (lo_hi c.f0 l)
        rw [List.length_append] at h1
        have := List.length_pos_iff.2 hne
        omega
      have hd := lo_drop c.f0 l
      rw [List.drop_eq_getElem_cons hlt] at hd
      have ht : l.drop ((loF c.f0 l).length + 1) = (hiF c.f0 l).tail := by rw [← hd]; rfl
      have hk : l[(loF c.f0 l).length].f0 = c.f0 := by
        rw [← hd] at hi
        exact toList_inj.1 (beq_iff_eq.1 hi)
      cases hg : c.f2 with
      | true =>
        rw [if_pos rfl, if_pos rfl, lo_take, ht]
        rfl
      | false =>
        rw [if_neg (by decide), if_neg (by decide), Given.rd_elem l _ hlt, hk, List.set_eq_take_append_cons_drop, if_pos hlt, lo_take, ht]
        rfl
    | false =>
      cases hg : c.f2 with
      | true =>
        simp only [Bool.false_eq_true, if_false, if_true, List.nil_append]
        rw [lo_hi]
      | false =>
        simp only [Bool.false_eq_true, if_false]
        rw [lo_take, lo_drop]
        rfl
  · rw [if_neg ha, if_neg ha]
def foldA (cs : List S42) (l : List S75) : List S75 := cs.foldl (fun l c => stepA c l) l
/-- What a step leaves of order and of keys that may be. -/
theorem hi_mem {key : ByteArray} {l : List S75} {p : S75} (h : p ∈ hiF key l) : p ∈ l := List.Sublist.mem h (List.dropWhile_sublist _)
theorem lo_mem {key : ByteArray} {l : List S75} {p : S75} (h : p ∈ loF key l) : p ∈ l ∧ kl p.f0 key = true := ⟨List.Sublist.mem h (List.takeWhile_sublist _), by
  have := List.all_takeWhile (p := fun p : S75 => kl p.f0 key) (l := l)
  rw [List.all_eq_true] at this
  exact this p h⟩
theorem kl_tri {a b : ByteArray} (h : kl a b = false) : a = b ∨ kl b a = true := by
  unfold kl at *
  by_cases h1 : Lib.compareBytes b.toList a.toList < 0
  · right; exact (cmp_lt _ _).1 h1
  · left
    have h2 : ¬ Lib.compareBytes a.toList b.toList < 0 := fun hc => by rw [(cmp_lt _ _).1 hc] at h; cases h
    have key : ∀ x y : List UInt8, ¬ Lib.compareBytes x y < 0 → ¬ Lib.compareBytes y x < 0 → x = y := by
      intro x
      induction x with
      | nil => intro y; cases y <;> simp [Lib.compareBytes]
      | cons a x ih =>
        intro y
        cases y with
        | nil => simp [Lib.compareBytes]
        | cons b y =>
          simp only [Lib.compareBytes]
          by_cases c1 : a < b
          · simp [c1]
          · by_cases c2 : b < a
            · simp [c1, c2]
            · have he : a = b := by rw [u8_lt_iff] at c1 c2; exact UInt8.toNat_inj.1 (by omega)
              subst he
              simp only [c1, if_false]
              intro h3 h4
              rw [ih y h3 h4]
    exact toList_inj.1 (key _ _ h2 h1)
theorem hi_ge (key : ByteArray) : ∀ (l : List S75), Srt l → ∀ p ∈ hiF key l, kl p.f0 key = false
  | [], _, p, h => by simp [hiF] at h
  | q :: t, hs, p, h => by
    have hs' := List.pairwise_cons.1 hs
    unfold hiF at h
    rw [List.dropWhile_cons] at h
    cases hq : kl q.f0 key with
    | true => rw [hq, if_pos rfl] at h; exact hi_ge key t hs'.2 p h
    | false =>
      rw [hq, if_neg (by decide)] at h
      rcases List.mem_cons.1 h with rfl | h
      · exact hq
      · cases hp : kl p.f0 key with
        | false => rfl
        | true => rw [kl_trans (hs'.1 p h) hp] at hq; cases hq
theorem hi_srt {key : ByteArray} {l : List S75} (hs : Srt l) : Srt (hiF key l) := hs.sublist (List.dropWhile_sublist _)
theorem rest_sub (key : ByteArray) (l : List S75) : (restF key l).Sublist (hiF key l) := by
  unfold restF
  split
  · exact List.tail_sublist _
  · exact List.Sublist.refl _
theorem rest_gt (key : ByteArray) (l : List S75) (hs : Srt l) : ∀ p ∈ restF key l, kl key p.f0 = true := by
  intro p hp
  have hh := hi_srt (key := key) hs
  have hg := hi_ge key l hs
  unfold restF at hp
  cases hx : hiF key l with
  | nil => rw [hx] at hp; simp [isH] at hp
  | cons q t =>
    rw [hx] at hp hh hg
    have hq := hg q List.mem_cons_self
    by_cases hi : q.f0.toList = key.toList
    · have e : isH key (q :: t) = true := beq_iff_eq.mpr hi
      rw [e, if_pos rfl] at hp
      have := (List.pairwise_cons.1 hh).1 p hp
      rw [toList_inj.1 hi] at this
      exact this
    · have e : isH key (q :: t) = false := beq_eq_false_iff_ne.mpr hi
      rw [e, if_neg (by decide)] at hp
      have hqk : kl key q.f0 = true := by
        rcases kl_tri hq with h | h
        · exact absurd (toList_inj.2 h) hi
        · exact h
      rcases List.mem_cons.1 hp with rfl | hp
      · exact hqk
      · exact kl_trans hqk ((List.pairwise_cons.1 hh).1 p hp)
theorem step_srt (c : S42) (l : List S75) (hs : Srt l) : Srt (stepC c l) := by
  unfold stepC Srt
  have hr := rest_gt c.f0 l hs
  have h1 : Srt (loF c.f0 l) := hs.sublist (List.takeWhile_sublist _)
  have h2 : Srt (restF c.f0 l) := (hi_srt hs).sublist (rest_sub _ _)
  rw [List.pairwise_append]
  refine ⟨h1, ?_, ?_⟩
  · cases c.f2 with
    | true => simp only [if_true, List.nil_append]; exact h2
    | false =>
      simp only [Bool.false_eq_true, if_false, List.cons_append, List.nil_append]
      exact List.pairwise_cons.2 ⟨fun p hp => hr p hp, h2⟩
  · intro a ha b hb
    have hak := (lo_mem ha).2
    rcases List.mem_append.1 hb with hb | hb
    · cases hg : c.f2 with
      | true => rw [hg] at hb; simp at hb
      | false =>
        rw [hg] at hb
        simp only [Bool.false_eq_true, if_false, List.mem_singleton] at hb
        rw [hb]; exact hak
    · exact kl_trans hak (hr b hb)
theorem step_mem {c : S42} {l : List S75} {p : S75} (h : p ∈ stepC c l) : p ∈ l ∨ (c.f2 = false ∧ p = ⟨c.f0, c.f1⟩) := by
  unfold stepC at h
  rcases List.mem_append.1 h with h | h
  · exact .inl (lo_mem h).1
  · rcases List.mem_append.1 h with h | h
    · cases hg : c.f2 with
      | true => rw [hg] at h; simp at h
      | false =>
        rw [hg] at h
        simp only [Bool.false_eq_true, if_false, List.mem_singleton] at h
        exact .inr ⟨rfl, h⟩
    · exact .inl (hi_mem ((rest_sub _ _).mem h))
theorem alone_put {c : S42} (h : aloneB c = true) (hg : c.f2 = false) : aloneB (putC ⟨c.f0, c.f1⟩) = true := by
  have : putC ⟨c.f0, c.f1⟩ = c := by cases c; simp only [putC] at *; rw [hg]
  rw [this]; exact h
theorem stepA_may (c : S42) (l : List S75) (h : mayL l = true) : mayL (stepA c l) = true := by
  unfold stepA
  by_cases ha : aloneB c = true
  · rw [if_pos ha]
    rw [mayL_iff] at h ⊢
    refine ⟨step_srt c l h.1, fun p hp => ?_⟩
    rcases step_mem hp with hp | ⟨hg, rfl⟩
    · exact h.2 p hp
    · exact alone_put ha hg
  · rw [if_neg ha]; exact h
theorem stepA_size (M : Nat) (c : S42) (l : List S75) (hc : c.f0.size ≤ M) (h : ∀ p ∈ l, p.f0.size ≤ M) : ∀ p ∈ stepA c l, p.f0.size ≤ M := by
  unfold stepA
  split
  · intro p hp
    rcases step_mem hp with hp | ⟨_, rfl⟩
    · exact h p hp
    · exact hc
  · exact h
theorem stepA_len (c : S42) (l : List S75) : (stepA c l).length ≤ l.length + 1 := by
  unfold stepA
  split
  · unfold stepC
    have h1 := congrArg List.length (lo_hi c.f0 l)
    have h2 := (rest_sub c.f0 l).length_le
    rw [List.length_append] at h1
    rw [List.length_append, List.length_append]
    have h3 : (if c.f2 = true then ([] : List S75) else [⟨c.f0, c.f1⟩]).length ≤ 1 := by split <;> simp
    omega
  · omega
theorem foldF_f (K : Nat) (hK : 140 ≤ K) : ∀ (cs : List S42) (l : List S75), Srt l → mayL l = true → l.length + cs.length ≤ 900000 → (∀ c ∈ cs, c.f0.size ≤ 1000000) → foldF K cs l = some (foldA cs l)
  | [], l, _, _, _, _ => rfl
  | c :: cs, l, hs, hm, hl, hc => by
    rw [foldF, if_pos (by simp at hl; omega), stepF_f K hK l c hs (hc c List.mem_cons_self), Option.bind_some]
    have hm2 := stepA_may c l hm
    have hlen := stepA_len c l
    exact foldF_f K hK cs (stepA c l) ((mayL_iff _).1 hm2).1 hm2 (by simp at hl; omega) (fun c hc' => hc c (List.mem_cons_of_mem _ hc'))
def applyA (l : List S75) (cs : List S42) : List S75 := if mayL l = true then foldA cs l else []
theorem dir_Apply_f (l : List S75) (cs : List S42) (hl : l.length ≤ 1800) (hcs : cs.length ≤ 100000) (hs : ∀ p ∈ l, p.f0.size ≤ 1000000) (hc : ∀ c ∈ cs, c.f0.size ≤ 1000000) : dir_Apply.f l cs = some (applyA l cs) := by
  unfold dir_Apply.f
  obtain ⟨K, hK⟩ : ∃ K, K = 2000 := ⟨_, rfl⟩
  rw [← hK]
  unfold applyF applyA
  rw [dir_May_f l (by omega) hs K (by omega), Option.bind_some]
  by_cases hm : mayL l = true
  · rw [if_pos hm, if_pos hm, if_pos ⟨by omega, by omega⟩, foldF_f K (by omega) cs l ((mayL_iff l).1 hm).1 hm (by omega) hc]
  · rw [if_neg hm, if_neg hm]
theorem rd_getC2 (l : List S42) (i : Nat) (h : i < l.length) : rd_T42 l (i : Int) = l[i] := rd_getC l i h
def fewP (l : List S75) : Bool := l.all (fun c => decide (c.f0.size ≤ 300) && decide (c.f1.size ≤ 1200))
theorem fewP_loop (l : List S75) (hl : l.length ≤ 10000000000000) : ∀ (d k i : Nat), i + d = l.length → sheetpileref21_Few.l0 (k + d + 1) l (i : Int) = some (fewP (l.drop i) && decide (l.length ≤ 200)) := by
  intro d
  induction d with
  | zero =>
    intro k i hi
    rw [List.drop_of_length_le (by omega), sheetpileref21_Few.l0, if_neg (by omega)]
    have : decide ((l.length : Int) ≤ 200) = decide (l.length ≤ 200) := by
      by_cases h : l.length ≤ 200
      · rw [decide_eq_true h, decide_eq_true (by omega)]
      · rw [decide_eq_false h, decide_eq_false (by omega)]
    rw [this]; rfl
  | succ d ih =>
    intro k i hi
    have hlt : i < l.length := by omega
    rw [show k + (d + 1) + 1 = (k + d + 1) + 1 by omega, sheetpileref21_Few.l0, if_pos (by omega), if_pos (by omega), Given.rd_elem l i hlt, List.drop_eq_getElem_cons hlt, show wrap64 ((i : Int) + 1) = ((i + 1 : Nat) : Int) by rw [wrap_id (by omega) (by omega)]; omega, ih k (i + 1) (by omega)]
    show _ = some (((decide (l[i].f0.size ≤ 300) && decide (l[i].f1.size ≤ 1200)) && fewP (l.drop (i + 1))) && _)
    by_cases h1 : l[i].f0.size ≤ 300
    · rw [if_neg (by omega), decide_eq_true h1]
      by_cases h2 : l[i].f1.size ≤ 1200
      · rw [if_neg (by omega), decide_eq_true h2]; simp
      · rw [if_pos (by omega), decide_eq_false h2]; simp
    · rw [if_pos (by omega), decide_eq_false h1]; simp
theorem fewP_f (l : List S75) (hl : l.length ≤ 10000000000000) (k : Nat) (hk : l.length + 1 ≤ k) : sheetpileref21_Few.f k l = some (fewP l && decide (l.length ≤ 200)) := by
  unfold sheetpileref21_Few.f
  have := fewP_loop l hl l.length (k - l.length - 1) 0 (by omega)
  rw [show k - l.length - 1 + l.length + 1 = k by omega, List.drop_zero] at this
  exact this
theorem fewP_mem {l : List S75} (h : fewP l = true) : ∀ p ∈ l, p.f0.size ≤ 300 ∧ p.f1.size ≤ 1200 := by
  intro p hp
  have := List.all_eq_true.1 h p hp
  simp only [Bool.and_eq_true, decide_eq_true_eq] at this
  exact this
def fewL (l : List S42) : Bool := l.all (fun c => decide (c.f0.size ≤ 300) && decide (c.f1.size ≤ 1200))
theorem few_loop (l : List S42) (hl : l.length ≤ 10000000000000) : ∀ (d k i : Nat), i + d = l.length → sheetpileref19_Few.l0 (k + d + 1) l (i : Int) = some (fewL (l.drop i) && decide (l.length ≤ 80)) := by
  intro d
  induction d with
  | zero =>
    intro k i hi
    rw [List.drop_of_length_le (by omega), sheetpileref19_Few.l0, if_neg (by omega)]
    have : decide ((l.length : Int) ≤ 80) = decide (l.length ≤ 80) := by
      by_cases h : l.length ≤ 80
      · rw [decide_eq_true h, decide_eq_true (by omega)]
      · rw [decide_eq_false h, decide_eq_false (by omega)]
    rw [this]; rfl
  | succ d ih =>
    intro k i hi
    have hlt : i < l.length := by omega
    have hx : wrap64 ((i : Int) + 1) = ((i + 1 : Nat) : Int) := by rw [wrap_id (by omega) (by omega)]; omega
    rw [show k + (d + 1) + 1 = (k + d + 1) + 1 by omega, sheetpileref19_Few.l0, if_pos (by omega), if_pos (by omega), rd_getC l i hlt, hx, ih k (i + 1) (by omega), List.drop_eq_getElem_cons hlt]
    have hc : fewL (l[i] :: l.drop (i + 1)) = ((decide (l[i].f0.size ≤ 300) && decide (l[i].f1.size ≤ 1200)) && fewL (l.drop (i + 1))) := rfl
    rw [hc]
    by_cases h1 : (l[i].f0.size : Int) > 300
    · rw [if_pos h1, decide_eq_false (p := l[i].f0.size ≤ 300) (by omega)]; rfl
    · rw [if_neg h1, decide_eq_true (p := l[i].f0.size ≤ 300) (by omega)]
      by_cases h2 : (l[i].f1.size : Int) > 1200
      · rw [if_pos h2, decide_eq_false (p := l[i].f1.size ≤ 1200) (by omega)]; rfl
      · rw [if_neg h2, decide_eq_true (p := l[i].f1.size ≤ 1200) (by omega)]; rfl
theorem few_f (l : List S42) (hl : l.length ≤ 10000000000000) (k : Nat) (hk : l.length + 1 ≤ k) : sheetpileref19_Few.f k l = some (fewL l && decide (l.length ≤ 80)) := by
  unfold sheetpileref19_Few.f
  have := few_loop l hl l.length (k - l.length - 1) 0 (by omega)
  rw [show k - l.length - 1 + l.length + 1 = k by omega] at this
  exact this
theorem few_sizes {l : List S42} (h : (fewL l && decide (l.length ≤ 80)) = true) : l.length ≤ 80 ∧ ∀ c ∈ l, c.f0.size ≤ 300 ∧ c.f1.size ≤ 1200 := by
  rw [Bool.and_eq_true, decide_eq_true_eq] at h
  refine ⟨h.2, fun c hc => ?_⟩
  have := List.all_eq_true.1 h.1 c hc
  rw [Bool.and_eq_true, decide_eq_true_eq, decide_eq_true_eq] at this
  exact this
theorem takeL_len (l : List UInt8) : (takeL l).2.1.length ≤ l.length := by
  unfold takeL
  split
  · simp
  · split
    · simp
    · simp only [List.length_drop]; omega
theorem hasPrefix_f (l m : List UInt8) : stringslite_HasPrefix.f (bs l) (bs m) = some (l.take m.length == m) := by
  unfold stringslite_HasPrefix.f
  rw [bs_size, bs_size]
  by_cases h : (l.length : Int) ≥ (m.length : Int)
  · rw [if_pos h, if_pos (by omega), if_pos (by omega), Int.toNat_natCast, bs_extract_zero, bs_toList, bs_toList]
  · rw [if_neg h]
    have : (l.take m.length == m) = false := by
      simp only [beq_eq_false_iff_ne, ne_eq]
      intro hc
      have := congrArg List.length hc
      rw [List.length_take] at this; omega
    rw [this]
theorem pow4 : (256 : Nat) ^ 4 = 4294967296 := by decide
theorem cut4 (l : List UInt8) : cutL l 4 = if l.length < 4 then (0, [], 4) else (((lowN (l.take 4) : Nat) : Int), l.drop 4, 0) := by
  by_cases h : l.length < 4
  · rw [if_pos h]; unfold cutL; rw [if_neg (by omega), if_pos (by omega)]
  · rw [if_neg h]; exact cutL_ok (s := 4) (by decide) (by decide) (by omega)
/-- A text's bytes, its length ahead. -/
def txL (a : ByteArray) : List UInt8 := lowB 2 a.size ++ a.data.toList
theorem txL_len (a : ByteArray) : (txL a).length = a.size + 2 := by unfold txL; rw [List.length_append, lowB_length, data_length]; omega
theorem takeL_tx (a : ByteArray) (m : List UInt8) (h : a.size ≤ 65535) : takeL (txL a ++ m) = (a.data.toList, m, 0) := by
  unfold txL
  have := takeL_text a.data.toList m (by rw [data_length]; omega)
  rw [data_length] at this
  exact this
theorem takeL_ok {m : List UInt8} (h : (takeL m).2.2 = 0) : takeL m = ((takeL m).1, (takeL m).2.1, 0) := by rw [← h]
def bodyP (l : List S75) : List UInt8 := hintB txL l
def headP (l : List S75) : List UInt8 := [72, 73, 78, 84] ++ bodyP l
def hintL (l : List S75) : List UInt8 := headP l ++ lowB 4 (more 0 (headP l))
theorem htx_eq (K : Nat) (hK : 10 ≤ K) (a : ByteArray) (h : a.size ≤ 65535) : wire_Text.f K a = some (bs (txL a), 0) ∧ htxK K a = txL a := by
  have h1 := wire_Text_f K hK a.data.toList (by rw [data_length]; omega)
  rw [← bs_of, textL_ok (by rw [data_length]; omega)] at h1
  have h2 : wire_Text.f K a = some (bs (txL a), 0) := by rw [h1]; unfold txL; rw [data_length]
  refine ⟨h2, ?_⟩
  unfold htxK
  rw [h2]
  simp only []
  rw [bs_data]
theorem hintB_congr (f g : ByteArray → List UInt8) (l : List S75) (h : ∀ p ∈ l, f p.f0 = g p.f0 ∧ f p.f1 = g p.f1) : hintB f l = hintB g l := by
  induction l with
  | nil => rfl
  | cons p l ih =>
    have e : ∀ f : ByteArray → List UInt8, hintB f (p :: l) = (f p.f0 ++ f p.f1) ++ hintB f l := fun f => rfl
    rw [e, e, (h p List.mem_cons_self).1, (h p List.mem_cons_self).2, ih (fun q hq => h q (List.mem_cons_of_mem _ hq))]
def smallP (l : List S75) : Prop := ∀ p ∈ l, p.f0.size ≤ 65535 ∧ p.f1.size ≤ 65535
theorem bodyP_len (l : List S75) (h : smallP l) : (bodyP l).length ≤ 131080 * l.length := hintB_len txL l (fun p hp => by
  have := h p hp
  rw [txL_len, txL_len]; omega)
theorem headP_len (l : List S75) (h : smallP l) : (headP l).length ≤ 131080 * l.length + 4 := by
  have := bodyP_len l h
  unfold headP
  rw [List.length_append]; simp; omega
theorem put4 (l : List UInt8) : putL ((more 0 l : Nat) : Int) 4 = (lowB 4 (more 0 l), 0) := putL_ok (s := 4) (by decide) (by decide) (by rw [pow4]; exact more_lt (by decide) l)
theorem wrap_more (l : List UInt8) : wrap64 ((more 0 l : Nat) : Int) = ((more 0 l : Nat) : Int) := by have := more_lt (s := 0) (by decide) l; rw [wrap_id (by omega) (by omega)]
theorem dir_Hint_f (l : List S75) (hl : l.length ≤ 1800) (h : smallP l) : dir_Hint.f l = some (if mayL l = true then (bs (hintL l), 0) else (bs [], 1)) := by
  unfold dir_Hint.f
  obtain ⟨K, hK⟩ : ∃ K, K = 2000 := ⟨_, rfl⟩
  rw [← hK]
  unfold hintF
  rw [dir_May_f l (by omega) (fun p hp => by have := h p hp; omega) K (by omega), Option.bind_some]
  by_cases hm : mayL l = true
  · rw [if_pos hm, if_pos hm]
    have hall : l.all (hokP K) = true := by
      rw [List.all_eq_true]
      intro p hp
      have hp2 := h p hp
      have e0 := htx_eq K (by omega) p.f0 hp2.1
      have e1 := htx_eq K (by omega) p.f1 hp2.2
      unfold hokP
      rw [e0.1, e1.1, e0.2, e1.2, txL_len, txL_len]
      simp only [Option.isSome_some, Bool.true_and, Bool.and_eq_true, decide_eq_true_eq]
      omega
    have hb : hintH (htxK K) l = headP l := by
      unfold hintH headP bodyP
      rw [hintB_congr (htxK K) txL l (fun p hp => ⟨(htx_eq K (by omega) p.f0 (h p hp).1).2, (htx_eq K (by omega) p.f1 (h p hp).2).2⟩)]
    rw [if_pos ⟨by omega, hall⟩, hb, PureC.crc_Sum_f _ (by rw [bs_size]; have := headP_len l h; omega), Option.bind_some, bs_data, wrap_more]
    have := more_lt (s := 0) (by decide) (headP l)
    rw [wire_Put_f K (by omega) _ _ (by omega) (by omega), put4, Option.bind_some]
    simp only []
    rw [if_pos (by rw [bs_size, lowB_length]; decide), bs_append]
    rfl
  · rw [if_neg hm, if_neg hm]
    rfl
/-- The pairs of bytes; none: they are none. -/
def parseP : Nat → List UInt8 → Option (List S75)
  | 0, s => if s = [] then some [] else none
  | n + 1, s => if s = [] then some [] else if (takeL s).2.2 = 0 ∧ (takeL (takeL s).2.1).2.2 = 0 then (parseP n (takeL (takeL s).2.1).2.1).map (fun l => ⟨bs (takeL s).1, bs (takeL (takeL s).2.1).1⟩ :: l) else none
theorem take_e (l : List UInt8) : (takeL l).2.2 = 0 ∨ (takeL l).2.2 = 4 := by
  unfold takeL
  split
  · exact .inr rfl
  · split
    · exact .inr rfl
    · exact .inl rfl
theorem take_lt {l : List UInt8} (h : (takeL l).2.2 = 0) : (takeL l).2.1.length + (takeL l).1.length + 2 ≤ l.length := by
  have := (takeL_back (takeL_ok h)).1
  have h2 := congrArg List.length this
  rw [List.length_append, List.length_append, lowB_length] at h2
  omega
def ansP (acc : List S75) (o : Option (List S75)) : List S75 × Int := match o with | none => ([], 5) | some ps => if mayL (acc ++ ps) = true then (acc ++ ps, 0) else ([], 5)
theorem nil_toList (s : List UInt8) : ((bs s).toList = ([] : List UInt8)) ↔ s = [] := by rw [bs_toList]
theorem read_loop (M : Nat) (hM : M ≤ 1000000) : ∀ (n : Nat) (s : List UInt8) (acc : List S75) (k : Nat), s.length ≤ n → n ≤ M → acc.length + n ≤ M → (∀ p ∈ acc, p.f0.size ≤ M) → n + M + 200 ≤ k →
    dir_Read.l0 k acc (bs s) = some (ansP acc (parseP n s)) := by
  intro n
  induction n with
  | zero =>
    intro s acc k hs hn ha hp hk
    obtain rfl : s = [] := List.eq_nil_of_length_eq_zero (by omega)
    obtain ⟨k, rfl⟩ : ∃ j, k = j + 1 := ⟨k - 1, by omega⟩
    rw [dir_Read.l0, if_pos ((nil_toList []).2 rfl), dir_May_f acc (by omega) (fun p h => by have := hp p h; omega) k (by omega), Option.bind_some]
    show _ = some (if mayL (acc ++ []) = true then (acc ++ [], 0) else ([], 5))
    rw [List.append_nil]
    split <;> rfl
  | succ n ih =>
    intro s acc k hs hn ha hp hk
    obtain ⟨k, rfl⟩ : ∃ j, k = j + 1 := ⟨k - 1, by omega⟩
    rw [dir_Read.l0, parseP]
    by_cases h0 : s = []
    · rw [if_pos ((nil_toList s).2 h0), if_pos h0, dir_May_f acc (by omega) (fun p h => by have := hp p h; omega) k (by omega), Option.bind_some]
      show _ = some (if mayL (acc ++ []) = true then (acc ++ [], 0) else ([], 5))
      rw [List.append_nil]
      split <;> rfl
    · have hl1 := takeL_len s
      have hl2 := takeL_len (takeL s).2.1
      rw [if_neg (fun h => h0 ((nil_toList s).1 h)), if_neg h0, wire_Take_f s (by omega), Option.bind_some]
      simp only []
      rw [wire_Take_f (takeL s).2.1 (by omega), Option.bind_some]
      simp only []
      by_cases he : (takeL s).2.2 = 0 ∧ (takeL (takeL s).2.1).2.2 = 0
      · have t1 := take_lt he.1
        have t2 := take_lt he.2
        rw [if_pos he, he.1, he.2, if_pos (by decide), if_pos (by omega), ih _ _ k (by omega) (by omega) (by simp; omega) (fun p hp2 => by
          rcases List.mem_append.1 hp2 with h | h
          · exact hp p h
          · rw [List.mem_singleton.1 h]; show (bs _).size ≤ M; rw [bs_size]; omega) (by omega)]
        cases parseP n (takeL (takeL s).2.1).2.1 with
        | none => rfl
        | some ps => show some (if mayL _ = true then (_, (0 : Int)) else ([], 5)) = some (if mayL _ = true then (_, (0 : Int)) else ([], 5)); rw [List.append_assoc]; rfl
      · rw [if_neg he]
        have hmx : ¬ mx (takeL s).2.2 (takeL (takeL s).2.1).2.2 = 0 := by
          rcases take_e s with h1 | h1 <;> rcases take_e (takeL s).2.1 with h2 | h2 <;> rw [h1, h2] at he ⊢ <;> simp [mx] at he ⊢
        rw [if_neg hmx]
        rfl
def readD (s : List UInt8) : List S75 × Int :=
  if s.length < 8 ∨ s.take 4 ≠ [72, 73, 78, 84] then ([], 5)
  else if lowN (s.drop (s.length - 4)) = more 0 (s.take (s.length - 4)) then ansP [] (parseP s.length ((s.take (s.length - 4)).drop 4)) else ([], 6)
theorem ext_mid (s : List UInt8) (n : Nat) (hn : n ≤ s.length) : (bs s).extract 4 n = bs ((s.take n).drop 4) := by
  rw [bs_extract, List.drop_take]
theorem cut_last (s : List UInt8) (h : 4 ≤ s.length) : cutL (s.drop (s.length - 4)) 4 = (((lowN (s.drop (s.length - 4)) : Nat) : Int), [], 0) := by
  have hl : (s.drop (s.length - 4)).length = 4 := by rw [List.length_drop]; omega
  generalize s.drop (s.length - 4) = t at hl
  rw [cut4, if_neg (by omega), List.take_of_length_le (by omega), List.drop_of_length_le (by omega)]
theorem dir_Read_f (s : List UInt8) (hs : s.length ≤ 1000000) (k : Nat) (hk : 2 * s.length + 210 ≤ k) : dir_Read.f k (bs s) = some (readD s) := by
  obtain ⟨k, rfl⟩ : ∃ j, k = j + 1 := ⟨k - 1, by omega⟩
  unfold dir_Read.f readD
  rw [bs_size]
  by_cases h8 : s.length < 8
  · rw [if_pos (Or.inl h8 : s.length < 8 ∨ s.take 4 ≠ [72, 73, 78, 84])]
    have hw : wrap64 ((s.length : Int) - 4) < 4 := by rw [wrap_id (by omega) (by omega)]; omega
    rw [if_pos hw, dir_Read.j0, if_pos rfl]
  · have hw : wrap64 ((s.length : Int) - 4) = ((s.length - 4 : Nat) : Int) := by rw [wrap_id (by omega) (by omega)]; omega
    rw [hw, if_neg (by omega)]
    unfold strings_HasPrefix.f
    rw [show (⟨#[72, 73, 78, 84]⟩ : ByteArray) = bs [72, 73, 78, 84] from rfl, hasPrefix_f, Option.bind_some, Option.bind_some]
    by_cases hm : s.take 4 = [72, 73, 78, 84]
    · have hb : (s.take ([72, 73, 78, 84] : List UInt8).length == [72, 73, 78, 84]) = true := beq_iff_eq.mpr hm
      rw [hb, dir_Read.j0, if_neg (by decide), if_pos (by omega), if_pos (by rw [bs_size]; omega), Int.toNat_natCast, bs_size, bs_extract_end, wire_Cut_f _ _ (by simp; omega), cut_last s (by omega), Option.bind_some, bs_extract_zero, PureC.crc_Sum_f _ (by rw [bs_size]; simp; omega), Option.bind_some, bs_data, wrap_more, if_neg (show ¬ (s.length < 8 ∨ s.take 4 ≠ [72, 73, 78, 84]) from by rintro (h | h); exact h8 h; exact h hm)]
      (try simp only [])
      by_cases hsum : lowN (s.drop (s.length - 4)) = more 0 (s.take (s.length - 4))
      · rw [if_pos (by rw [hsum]), if_pos hsum, if_pos (by omega), ext_mid s _ (by omega)]
        exact read_loop s.length (by omega) s.length _ [] k (by simp; omega) (Nat.le_refl _) (by simp) (fun p hp => by simp at hp) (by omega)
      · rw [if_neg (by omega), if_neg hsum]
    · have hb : (s.take ([72, 73, 78, 84] : List UInt8).length == [72, 73, 78, 84]) = false := beq_eq_false_iff_ne.mpr hm
      rw [hb, dir_Read.j0, if_pos (by decide), if_pos (Or.inr hm : s.length < 8 ∨ s.take 4 ≠ [72, 73, 78, 84])]
theorem bodyP_cons (p : S75) (l : List S75) : bodyP (p :: l) = txL p.f0 ++ (txL p.f1 ++ bodyP l) := by
  show (txL p.f0 ++ txL p.f1) ++ bodyP l = _
  rw [List.append_assoc]
theorem txL_ne (a : ByteArray) (m : List UInt8) : txL a ++ m ≠ [] := by
  intro h
  have := congrArg List.length h
  rw [List.length_append, txL_len] at this
  simp at this
theorem parse_body : ∀ (l : List S75) (n : Nat), smallP l → l.length ≤ n → parseP n (bodyP l) = some l
  | [], n, _, _ => by cases n <;> (rw [parseP]; exact if_pos rfl)
  | p :: l, n, h, hn => by
    obtain ⟨n, rfl⟩ : ∃ j, n = j + 1 := ⟨n - 1, by simp at hn; omega⟩
    have hp := h p List.mem_cons_self
    rw [parseP, bodyP_cons, if_neg (txL_ne _ _), takeL_tx _ _ hp.1]
    simp only []
    rw [takeL_tx _ _ hp.2]
    simp only []
    rw [if_pos (by simp), parse_body l n (fun q hq => h q (List.mem_cons_of_mem _ hq)) (by simp at hn; omega), Option.map_some, ← bs_of, ← bs_of]
theorem bodyP_ge (l : List S75) : l.length ≤ (bodyP l).length := by
  induction l with
  | nil => simp
  | cons p l ih => rw [bodyP_cons, List.length_append, List.length_append, txL_len, txL_len, List.length_cons]; omega
theorem readD_hint (l : List S75) (h : smallP l) (hm : mayL l = true) : readD (hintL l) = (l, 0) := by
  have hl : (hintL l).length - 4 = (headP l).length := by unfold hintL; rw [List.length_append, lowB_length]; omega
  have hh : (headP l).length = (bodyP l).length + 4 := by unfold headP; rw [List.length_append]; simp; omega
  have ht : (hintL l).take 4 = [72, 73, 78, 84] := rfl
  have hd : (hintL l).drop (headP l).length = lowB 4 (more 0 (headP l)) := by unfold hintL; rw [List.drop_append_of_le_length (Nat.le_refl _), List.drop_length]; rfl
  have hk : (hintL l).take (headP l).length = headP l := by unfold hintL; rw [List.take_append_of_le_length (Nat.le_refl _), List.take_length]
  unfold readD
  rw [if_neg (show ¬ ((hintL l).length < 8 ∨ (hintL l).take 4 ≠ [72, 73, 78, 84]) from by
    rintro (h1 | h1)
    · have : (hintL l).length = (headP l).length + 4 := by unfold hintL; rw [List.length_append, lowB_length]
      omega
    · exact h1 ht), hl, hd, hk, lowN_lowB_lt (by rw [pow4]; exact more_lt (by decide) _), if_pos rfl]
  have hb : (headP l).drop 4 = bodyP l := rfl
  rw [hb, parse_body l _ h (by have := bodyP_ge l; unfold hintL; rw [List.length_append]; omega)]
  show (if mayL ([] ++ l) = true then ([] ++ l, (0 : Int)) else ([], 5)) = _
  rw [List.nil_append, if_pos hm]
theorem hintL_len (l : List S75) (h : smallP l) : (hintL l).length ≤ 131080 * l.length + 8 := by
  have := headP_len l h
  unfold hintL
  rw [List.length_append, lowB_length]; omega
def compA (l : List S75) : List (List S42) := if mayL l = true then partsF l l.length 0 else []
theorem dir_Compact_f (l : List S75) (hl : l.length ≤ 1800) (hs : ∀ p ∈ l, p.f0.size ≤ 1000000) : dir_Compact.f l = some (compA l) := by
  unfold dir_Compact.f
  obtain ⟨K, hK⟩ : ∃ K, K = 2000 := ⟨_, rfl⟩
  rw [← hK]
  unfold compA
  rw [dir_May_f l (by omega) hs K (by omega), Option.bind_some]
  by_cases hm : mayL l = true
  · rw [if_pos hm, if_pos hm, if_pos (by omega)]
  · rw [if_neg hm, if_neg hm]
def liveC : List S42 := [⟨⟨#[98]⟩, ⟨#[50]⟩, false⟩, ⟨⟨#[97]⟩, ⟨#[49]⟩, false⟩, ⟨⟨#[98]⟩, ⟨#[]⟩, true⟩, ⟨⟨#[99]⟩, ⟨#[]⟩, false⟩]
def liveL : List S75 := [⟨⟨#[97]⟩, ⟨#[49]⟩⟩, ⟨⟨#[99]⟩, ⟨#[]⟩⟩]
def liveN : List S75 := [⟨⟨#[98]⟩, ⟨#[]⟩⟩, ⟨⟨#[97]⟩, ⟨#[]⟩⟩]
theorem live_apply : applyA [] liveC = liveL := by kernel_rfl
theorem live_may : mayL liveL = true := by decide +kernel
theorem live_not : mayL liveN = false := by decide +kernel
theorem live_get1 : getF liveL ⟨#[97]⟩ = (⟨#[49]⟩, true) := by kernel_rfl
theorem live_get2 : getF liveL ⟨#[98]⟩ = (⟨#[]⟩, false) := by kernel_rfl
theorem live_small : smallP liveL := by
  intro p hp
  simp only [liveL, List.mem_cons, List.not_mem_nil, or_false] at hp
  rcases hp with rfl | rfl <;> exact ⟨by decide, by decide⟩
theorem live_smallN : smallP liveN := by
  intro p hp
  simp only [liveN, List.mem_cons, List.not_mem_nil, or_false] at hp
  rcases hp with rfl | rfl <;> exact ⟨by decide, by decide⟩
theorem live21 (k : Nat) (hk : 5000 ≤ k) : sheetpilelaw21_live.f k = some true := by
  unfold sheetpilelaw21_live.f
  rw [if_pos ?_]
  unfold sheetpilelaw21_live0.f
  show (dir_Apply.f [] liveC).bind _ = _
  rw [dir_Apply_f [] liveC (by decide) (by decide) (by simp) (by
    intro c hc
    simp only [liveC, List.mem_cons, List.not_mem_nil, or_false] at hc
    rcases hc with rfl | rfl | rfl | rfl <;> decide), Option.bind_some, live_apply]
  unfold dir_Get.f
  rw [Option.bind_some, Option.bind_some, live_get1, live_get2, dir_Hint_f liveL (by decide) live_small, if_pos live_may, Option.bind_some]
  simp only []
  have hhl := hintL_len liveL live_small
  have hll : liveL.length = 2 := rfl
  have hreads : ∀ s : List UInt8, s.length ≤ 50 → dir_Read.f k (bs s) = some (readD s) := fun s hs => dir_Read_f s (by omega) k (by omega)
  have hh : (hintL liveL).length ≤ 50 := by decide
  rw [hreads _ hh, readD_hint liveL live_small live_may, Option.bind_some, show (⟨#[72, 73, 78, 84]⟩ : ByteArray) = bs [72, 73, 78, 84] from rfl, hreads _ (by decide), show readD [72, 73, 78, 84] = ([], 5) from rfl, Option.bind_some]
  show (dir_Hint.f liveN).bind _ = _
  rw [dir_Hint_f liveN (by decide) live_smallN, live_not, if_neg (by decide), Option.bind_some, dir_Compact_f liveL (by decide) (fun p hp => by have := live_small p hp; omega), Option.bind_some]
  show (sheetpileref21_Same.f k liveL liveL).bind _ = _
  rw [same_f liveL (by decide) k (by rw [hll]; omega), Option.bind_some, if_pos rfl]
  have hc : compA liveL = [liveL.map putP] := by unfold compA; rw [if_pos live_may]; rfl
  rw [hc]
  simp only [show ((⟨#[49]⟩ : ByteArray).toList = ([49] : List UInt8)) from by rw [ByteArray.toList_eq], if_true]
  rw [if_neg (by decide), Option.bind_some, if_pos (by decide), if_pos (by decide)]
  rw [if_pos (by decide), if_pos (by decide), dir_May_f liveL (by decide) (fun p hp => by have := live_small p hp; omega) k (by rw [hll]; omega), Option.bind_some, live_may]
theorem getF_eq (l : List S75) (key : ByteArray) : getF l key = match l.find? (fun p => p.f0.toList == key.toList) with | some p => (p.f1, true) | none => (⟨#[]⟩, false) := by
  unfold getF atF
  by_cases h : l.findIdx (fun p => p.f0.toList == key.toList) < l.length
  · rw [if_pos h, Given.rd_elem l _ h]
    have h2 : l.find? (fun p => p.f0.toList == key.toList) = some l[l.findIdx (fun p => p.f0.toList == key.toList)] := by
      rw [List.find?_eq_some_iff_getElem]
      exact ⟨List.findIdx_getElem (w := h), _, h, rfl, fun j hj => by
        have := List.not_of_lt_findIdx hj
        simpa using this⟩
    rw [h2]
  · rw [if_neg h]
    have h2 : l.find? (fun p => p.f0.toList == key.toList) = none := by
      rw [List.find?_eq_none]
      intro p hp hc
      exact h (List.findIdx_lt_length_of_exists ⟨p, hp, hc⟩)
    rw [h2]
theorem find_append (f : S75 → Bool) (a b : List S75) : (a ++ b).find? f = (a.find? f).or (b.find? f) := List.find?_append
theorem foldA_may : ∀ (cs : List S42) (l : List S75), mayL l = true → mayL (foldA cs l) = true
  | [], _, h => h
  | c :: cs, l, h => foldA_may cs (stepA c l) (stepA_may c l h)
theorem foldA_size (M : Nat) : ∀ (cs : List S42) (l : List S75), (∀ c ∈ cs, c.f0.size ≤ M) → (∀ p ∈ l, p.f0.size ≤ M) → ∀ p ∈ foldA cs l, p.f0.size ≤ M
  | [], _, _, h => h
  | c :: cs, l, hc, h => foldA_size M cs (stepA c l) (fun x hx => hc x (List.mem_cons_of_mem _ hx)) (stepA_size M c l (hc c List.mem_cons_self) h)
theorem foldA_lenP : ∀ (cs : List S42) (l : List S75), (foldA cs l).length ≤ l.length + cs.length
  | [], l => Nat.le_refl _
  | c :: cs, l => by
    have h1 := foldA_lenP cs (stepA c l)
    have h2 := stepA_len c l
    have h3 : foldA (c :: cs) l = foldA cs (stepA c l) := rfl
    rw [h3, List.length_cons]; omega
theorem foldA_app (a b : List S42) (l : List S75) : foldA b (foldA a l) = foldA (a ++ b) l := by
  unfold foldA; rw [List.foldl_append]
theorem find_lo (c : S42) (l : List S75) : (loF c.f0 l).find? (fun p => p.f0.toList == c.f0.toList) = none := by
  rw [List.find?_eq_none]
  intro p hp hc
  have h := (lo_mem hp).2
  have e : p.f0 = c.f0 := toList_inj.1 (beq_iff_eq.1 hc)
  rw [e, kl_irr] at h
  exact Bool.false_ne_true h
theorem find_restP (c : S42) (l : List S75) (hs : Srt l) : (restF c.f0 l).find? (fun p => p.f0.toList == c.f0.toList) = none := by
  rw [List.find?_eq_none]
  intro p hp hc
  have h := rest_gt c.f0 l hs p hp
  have e : p.f0 = c.f0 := toList_inj.1 (beq_iff_eq.1 hc)
  rw [e, kl_irr] at h
  exact Bool.false_ne_true h
theorem get_last (c : S42) (l : List S75) (hs : Srt l) : getF (stepC c l) c.f0 = if c.f2 = true then (⟨#[]⟩, false) else (c.f1, true) := by
  rw [getF_eq]
  have e : (stepC c l).find? (fun p => p.f0.toList == c.f0.toList) = if c.f2 = true then none else some ⟨c.f0, c.f1⟩ := by
    unfold stepC
    rw [find_append, find_append, find_lo, find_restP c l hs]
    cases c.f2 with
    | true => rfl
    | false =>
      have e : ([⟨c.f0, c.f1⟩] : List S75).find? (fun p => p.f0.toList == c.f0.toList) = some ⟨c.f0, c.f1⟩ := by
        rw [List.find?_cons, show ((⟨c.f0, c.f1⟩ : S75).f0.toList == c.f0.toList) = true from beq_iff_eq.2 rfl]
      simp only [Bool.false_eq_true, if_false]
      rw [e]; rfl
  rw [e]
  cases c.f2 <;> rfl
theorem DirParts (b0 : List S75) (h0 : b0.length * 32 ≤ 140737488351232 ∧ ∀ z_b0 ∈ b0, (z_b0.f0.size ≤ 140737488351232) ∧ (z_b0.f1.size ≤ 140737488351232)) (b1 : List S42) (h1 : b1.length * 40 ≤ 140737488351232 ∧ ∀ z_b1 ∈ b1, (z_b1.f0.size ≤ 140737488351232) ∧ (z_b1.f1.size ≤ 140737488351232) ∧ (True)) (a2 : Int) (h2 : (Lit.int .i64 a2).wf = true) : ∃ k, sheetpilelaw21_DirParts.f k b0 b1 a2 = some true := by
  replace h0 := h0.1
  replace h1 := h1.1
  refine ⟨b0.length + b1.length + 10001, ?_⟩
  obtain ⟨k, hk⟩ : ∃ k, k = b0.length + b1.length + 10000 := ⟨_, rfl⟩
  rw [show b0.length + b1.length + 10001 = k + 1 by omega]
  unfold sheetpilelaw21_DirParts.f
  rw [fewP_f b0 (by omega) _ (by omega), Option.bind_some]
  have hlive : sheetpilelaw21_DirParts.j0 (k + 1) b0 b1 a2 true = some true := by
    rw [sheetpilelaw21_DirParts.j0, if_pos rfl, live21 k (by omega), Option.bind_some]
  by_cases hf : (fewP b0 && decide (b0.length ≤ 200)) = true
  · rw [if_pos hf]
    simp only [Bool.and_eq_true, decide_eq_true_eq] at hf
    have hp := fewP_mem hf.1
    rw [dir_May_f b0 (by omega) (fun p h => by have := hp p h; omega) (k + 1) (by omega), Option.bind_some]
    by_cases hm : mayL b0 = true
    · rw [if_pos hm, few_f b1 (by omega) _ (by omega), Option.bind_some]
      by_cases hg : (fewL b1 && decide (b1.length ≤ 80)) = true
      · rw [if_pos hg]
        have hc := (few_sizes hg).2
        have hc80 := (few_sizes hg).1
        by_cases hn : a2 < 0
        · rw [if_pos hn]; exact hlive
        · rw [if_neg hn]
          by_cases hb : a2 > (b1.length : Int)
          · rw [decide_eq_true hb]; exact hlive
          · rw [decide_eq_false hb]
            obtain ⟨n, rfl⟩ : ∃ n : Nat, a2 = (n : Int) := ⟨a2.toNat, by omega⟩
            have hnl : n ≤ b1.length := by omega
            have hcT : ∀ c ∈ b1.take n, c.f0.size ≤ 300 ∧ c.f1.size ≤ 1200 := fun c h => hc c (List.mem_of_mem_take h)
            have hcD : ∀ c ∈ b1.drop n, c.f0.size ≤ 300 ∧ c.f1.size ≤ 1200 := fun c h => hc c (List.mem_of_mem_drop h)
            have hm1 : mayL (foldA (b1.take n) b0) = true := foldA_may _ _ hm
            have hs1 := foldA_size 300 (b1.take n) b0 (fun c h => (hcT c h).1) (fun p h => (hp p h).1)
            have hl1 := foldA_lenP (b1.take n) b0
            have hl2 := foldA_lenP b1 b0
            have htl : (b1.take n).length ≤ b1.length := by rw [List.length_take]; omega
            have hdl : (b1.drop n).length ≤ b1.length := by rw [List.length_drop]; omega
            have eA : applyA b0 b1 = foldA b1 b0 := by unfold applyA; rw [if_pos hm]
            have eT : applyA b0 (b1.take n) = foldA (b1.take n) b0 := by unfold applyA; rw [if_pos hm]
            have eD : applyA (foldA (b1.take n) b0) (b1.drop n) = foldA b1 b0 := by unfold applyA; rw [if_pos hm1, foldA_app, List.take_append_drop]
            rw [sheetpilelaw21_DirParts.j0, if_neg (by decide), dir_Apply_f b0 b1 (by omega) (by omega) (fun p h => by have := hp p h; omega) (fun c h => by have := hc c h; omega), Option.bind_some, if_pos (by omega), if_pos (by omega), Int.toNat_natCast, dir_Apply_f b0 (b1.take n) (by omega) (by omega) (fun p h => by have := hp p h; omega) (fun c h => by have := hcT c h; omega), Option.bind_some, eT, dir_Apply_f (foldA (b1.take n) b0) (b1.drop n) (by omega) (by omega) (fun p h => by have := hs1 p h; omega) (fun c h => by have := hcD c h; omega), Option.bind_some, eA, eD, same_f _ (by omega) k (by omega), Option.bind_some, if_pos rfl]
            by_cases hz : (b1.length : Int) = 0
            · rw [if_pos hz, live21 k (by omega), Option.bind_some]
            · rw [if_neg hz]
              have hlt : b1.length - 1 < b1.length := by omega
              rw [wrap_dn b1.length (by omega) (by omega), if_pos (by omega), if_pos (by omega), rd_getC2 b1 (b1.length - 1) hlt]
              obtain ⟨c, hcE⟩ : ∃ c, c = b1[b1.length - 1] := ⟨_, rfl⟩
              have hcm : c ∈ b1 := by rw [hcE]; exact List.getElem_mem hlt
              have hcs := hc c hcm
              rw [← hcE]
              rw [ref19_Check_f 300 (by omega) k (by omega) _ (fun x h => by rw [List.mem_singleton.1 h]; exact hcs.1), Option.bind_some]
              by_cases hq : checkL [(⟨c.f0, c.f1, c.f2⟩ : S42)] = 0
              · rw [if_pos hq]
                have ha : aloneB c = true := by rw [← check_one]; exact beq_iff_eq.2 hq
                have hsp : b1 = b1.take (b1.length - 1) ++ [c] := by
                  have := List.take_append_drop (b1.length - 1) b1
                  rw [List.drop_eq_getElem_cons hlt, show b1.length - 1 + 1 = b1.length by omega, List.drop_length, ← hcE] at this
                  exact this.symm
                have hst : foldA b1 b0 = stepC c (foldA (b1.take (b1.length - 1)) b0) := by
                  have e1 : foldA b1 b0 = foldA [c] (foldA (b1.take (b1.length - 1)) b0) := by rw [foldA_app, ← hsp]
                  rw [e1]
                  show stepA c _ = _
                  unfold stepA; rw [if_pos ha]
                have hsr := ((mayL_iff _).1 (foldA_may (b1.take (b1.length - 1)) b0 hm)).1
                unfold dir_Get.f
                rw [Option.bind_some, hst, get_last c _ hsr]
                cases hf2 : c.f2 with
                | true => simp [live21 k (by omega)]
                | false => simp [live21 k (by omega)]
              · rw [if_neg hq, live21 k (by omega), Option.bind_some]
      · rw [if_neg hg]; exact hlive
    · rw [if_neg hm]; exact hlive
  · rw [if_neg hf]; exact hlive
end Go.Proofs.Ytggngbbkachpaaa.Pure
