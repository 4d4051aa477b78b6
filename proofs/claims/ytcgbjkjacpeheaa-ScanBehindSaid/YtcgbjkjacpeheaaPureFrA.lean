/- What wire's printed functions and their reference answer, in lists of bytes. -/
import Derived.Test.YtcgbjkjacpeheaaPFrx2
import Derived.Test.YtcgbjkjacpeheaaPFrx3
import Derived.Test.YtcgbjkjacpeheaaPFrx5
import Derived.Test.YtcgbjkjacpeheaaPFrx7
import Derived.Test.YtcgbjkjacpeheaaBs
import Derived.Test.YtcgbjkjacpeheaaWirePlain
namespace Go.Proofs.Ytcgbjkjacpeheaa.Pure
set_option linter.unusedVariables false
set_option linter.unusedSimpArgs false
open Go.RowKit Go.Proofs.Ytcgbjkjacpeheaa.PFr Go.Proofs.Ytcgbjkjacpeheaa.Given Go.Proofs.Ytcgbjkjacpeheaa.Bs Go.Proofs.Ytcgbjkjacpeheaa.WirePlain Go.Proofs.YtcgbjkjacpeheaaW.PrintWords Go.Proofs.YtcgbjkjacpeheaaW.PrintLast Go.Proofs.YtcgbjkjacpeheaaW.PrintMore
theorem tdiv_nat (n : Nat) : wrap64 (Int.tdiv (n : Int) 256) = ((n / 256 : Nat) : Int) ∨ 9223372036854775808 ≤ n := by
  by_cases h : n < 9223372036854775808
  · left
    rw [Int.tdiv_eq_ediv_of_nonneg (by omega)]
    unfold wrap64; omega
  · right; omega
theorem byte_nat (n : Nat) : Int.tmod (n : Int) 256 % 256 = (((UInt8.ofNat (n % 256)).toNat : Nat) : Int) := by
  rw [Int.tmod_eq_emod_of_nonneg (by omega)]
  have : (UInt8.ofNat (n % 256)).toNat = n % 256 := by simp [UInt8.toNat_ofNat']
  rw [this]; omega
theorem put_loop (d : Nat) : ∀ (k n : Nat) (pre : List UInt8), n < 9223372036854775808 → pre.length + d ≤ 7 →
    wire_Put.l0 (k + d + 1) n (numsOf pre ++ List.replicate d 0) ((pre.length + d : Nat) : Int) ((pre.length : Nat) : Int) =
      some (if n / 256 ^ d > 0 then (bs [], 12) else (bs (pre ++ lowB d n), 0)) := by
  induction d with
  | zero =>
    intro k n pre hn hp
    simp only [wire_Put.l0]
    rw [if_neg (by omega)]
    by_cases h : 0 < n
    · rw [if_pos (by omega), if_pos (by simp; omega)]; rfl
    · rw [if_neg (by omega), if_neg (by simp; omega)]
      simp only [List.replicate_zero, List.append_nil, lowB, strOfNums_numsOf]
  | succ d ih =>
    intro k n pre hn hp
    rw [show k + (d + 1) + 1 = (k + d + 1) + 1 by omega, wire_Put.l0]
    have hl : (numsOf pre ++ List.replicate (d + 1) (0 : Int)).length = pre.length + d + 1 := by simp [numsOf_length]; omega
    rw [if_pos (by omega), if_pos (by omega), hl, if_pos (by omega)]
    rw [Int.toNat_natCast, byte_nat]
    have hw : wrap64 (Int.tdiv (n : Int) 256) = ((n / 256 : Nat) : Int) := (tdiv_nat n).resolve_right (by omega)
    have hs : wrap64 ((pre.length : Int) + 1) = ((pre.length + 1 : Nat) : Int) := by unfold wrap64; omega
    rw [hw, hs]
    have hset : (numsOf pre ++ List.replicate (d + 1) (0 : Int)).set pre.length (((UInt8.ofNat (n % 256)).toNat : Nat) : Int) = numsOf (pre ++ [UInt8.ofNat (n % 256)]) ++ List.replicate d 0 := by
      rw [List.set_append_right _ _ (by rw [numsOf_length]; omega), numsOf_length, Nat.sub_self, List.replicate_succ, List.set_cons_zero]
      simp [numsOf]
    rw [hset]
    have := ih k (n / 256) (pre ++ [UInt8.ofNat (n % 256)]) (by omega) (by simp; omega)
    rw [List.length_append, List.length_singleton, show pre.length + 1 + d = pre.length + (d + 1) by omega] at this
    rw [this, Nat.div_div_eq_div_mul, show 256 * 256 ^ d = 256 ^ (d + 1) by rw [Nat.pow_succ, Nat.mul_comm]]
    simp only [lowB, List.append_assoc, List.singleton_append]
theorem wire_Put_f (k : Nat) (hk : 10 ≤ k) (n size : Int) (h0 : -9223372036854775808 ≤ n) (h1 : n < 9223372036854775808) : wire_Put.f k n size = some (bs (putL n size).1, (putL n size).2) := by
  obtain ⟨k, rfl⟩ : ∃ m, k = m + 10 := ⟨k - 10, by omega⟩
  unfold wire_Put.f putL
  by_cases hs : size < 1
  · rw [if_pos hs, if_pos (.inl hs)]; simp only [wire_Put.j0]; rw [if_pos trivial]; rfl
  · rw [if_neg hs]
    by_cases hs7 : size > 7
    · rw [if_pos hs7, if_pos (.inr (.inl hs7))]; simp only [wire_Put.j0]; rw [if_pos trivial]; rfl
    · rw [if_neg hs7]
      simp only [wire_Put.j0]
      by_cases hn : n < 0
      · rw [if_pos (by simpa using hn), if_pos (.inr (.inr hn))]; rfl
      · obtain ⟨s, rfl⟩ := Int.eq_ofNat_of_zero_le (show 0 ≤ size by omega)
        obtain ⟨m, rfl⟩ := Int.eq_ofNat_of_zero_le (show 0 ≤ n by omega)
        rw [if_neg (by simp), if_pos (by omega), if_pos (by omega), if_neg (by omega)]
        simp only [Option.bind_some, Int.toNat_natCast, List.length_replicate]
        have := put_loop s (k + 8 - s) m [] (by omega) (by simp; omega)
        simp only [numsOf, List.map_nil, List.nil_append, List.length_nil, Nat.zero_add] at this
        rw [show k + 8 - s + s + 1 = k + 9 by omega] at this
        rw [show ((0 : Nat) : Int) = 0 from rfl] at this
        rw [this]
        by_cases hb : m / 256 ^ s > 0
        · rw [if_pos hb, if_pos hb]
        · rw [if_neg hb, if_neg hb]
theorem wire_Cut_f (l : List UInt8) (size : Int) (h : l.length ≤ 281474976710656) : wire_Cut.f (bs l) size = some ((cutL l size).1, bs (cutL l size).2.1, (cutL l size).2.2) := by
  unfold wire_Cut.f cutL
  rw [bs_size, if_pos h]
  by_cases h1 : size < 1
  · rw [if_pos h1, if_pos (.inl h1)]; rfl
  · rw [if_neg h1]
    by_cases h2 : 7 < size
    · rw [if_pos h2, if_pos (.inr h2)]; rfl
    · have h4 : ¬ (size < 1 ∨ 7 < size) := by omega
      rw [if_neg h2, if_neg h4]
      by_cases h3 : (l.length : Int) < size
      · rw [if_pos h3, if_pos h3]; rfl
      · rw [if_neg h3, if_neg h3, bs_data, bs_extract_end]
theorem wire_Text_f (k : Nat) (hk : 10 ≤ k) (l : List UInt8) (h : l.length ≤ 281474976710656) : wire_Text.f k (bs l) = some (bs (textL l).1, (textL l).2) := by
  unfold wire_Text.f textL
  rw [bs_size, wire_Put_f k hk _ _ (by omega) (by omega), Option.bind_some]
  have e2 : (256 : Nat) ^ 2 = 65536 := by decide
  by_cases hl : l.length < 65536
  · have hp := putL_ok (n := l.length) (s := 2) (by decide) (by decide) (by omega)
    rw [show ((2 : Nat) : Int) = 2 from rfl] at hp
    rw [hp, if_pos rfl, if_pos hl]
    have hb := lowB_length 2 l.length
    rw [if_pos (by rw [bs_size, hb]; omega), bs_append]
  · have hp : putL l.length 2 = ([], 12) := by
      unfold putL
      rw [if_neg (by omega), if_pos ?_]
      have : l.length / 65536 > 0 := Nat.div_pos (by omega) (by decide)
      simpa [e2] using this
    rw [hp, if_neg (by decide), if_neg hl]; rfl
theorem wire_Take_f (l : List UInt8) (h : l.length ≤ 281474976710656) : wire_Take.f (bs l) = some (bs (takeL l).1, bs (takeL l).2.1, (takeL l).2.2) := by
  unfold wire_Take.f takeL
  rw [wire_Cut_f l 2 h, Option.bind_some]
  by_cases h2 : l.length < 2
  · have hc : cutL l 2 = (0, [], 4) := by unfold cutL; rw [if_neg (by omega), if_pos (by omega)]
    rw [hc, if_neg (by decide), if_pos h2]; rfl
  · have hc : cutL l 2 = (((lowN (l.take 2) : Nat) : Int), l.drop 2, 0) := cutL_ok (s := 2) (by decide) (by decide) (by omega)
    rw [hc, if_pos rfl, if_neg h2]
    simp only [bs_size, List.length_drop]
    by_cases h3 : l.length - 2 < lowN (l.take 2)
    · rw [if_pos (by omega), if_pos h3]; rfl
    · rw [if_neg (by omega), if_neg h3, if_pos (by omega), if_pos (by omega)]
      rw [Int.toNat_natCast, bs_extract_zero, ← List.length_drop, bs_extract_end]
theorem rput_loop (d : Nat) : ∀ (k n : Nat) (pre : List UInt8), n < 9223372036854775808 → pre.length + d ≤ 7 →
    sheetpileref07_Put.l0 (k + d + 1) n ((pre.length + d : Nat) : Int) (bs pre) ((pre.length : Nat) : Int) =
      some (if n / 256 ^ d > 0 then (bs [], 12) else (bs (pre ++ lowB d n), 0)) := by
  induction d with
  | zero =>
    intro k n pre hn hp
    rw [sheetpileref07_Put.l0, if_neg (by omega)]
    by_cases h : 0 < n
    · rw [if_pos (by omega), if_pos (by simp; omega)]; rfl
    · rw [if_neg (by omega), if_neg (by simp; omega)]
      simp only [List.append_nil, lowB]
  | succ d ih =>
    intro k n pre hn hp
    rw [show k + (d + 1) + 1 = (k + d + 1) + 1 by omega, sheetpileref07_Put.l0, if_pos (by omega), byte_nat, Option.bind_some]
    have hst : strOfNums [(((UInt8.ofNat (n % 256)).toNat : Nat) : Int)] = bs [UInt8.ofNat (n % 256)] := strOfNums_numsOf [UInt8.ofNat (n % 256)]
    have hw : wrap64 (Int.tdiv (n : Int) 256) = ((n / 256 : Nat) : Int) := (tdiv_nat n).resolve_right (by omega)
    have hs : wrap64 ((pre.length : Int) + 1) = ((pre.length + 1 : Nat) : Int) := by unfold wrap64; omega
    rw [hst, bs_size, bs_size, if_pos (by simp; omega), hw, hs, bs_append]
    have := ih k (n / 256) (pre ++ [UInt8.ofNat (n % 256)]) (by omega) (by simp; omega)
    rw [List.length_append, List.length_singleton, show pre.length + 1 + d = pre.length + (d + 1) by omega] at this
    rw [this, Nat.div_div_eq_div_mul, show 256 * 256 ^ d = 256 ^ (d + 1) by rw [Nat.pow_succ, Nat.mul_comm]]
    simp only [lowB, List.append_assoc, List.singleton_append]
theorem ref_Put_f (k : Nat) (hk : 10 ≤ k) (n size : Int) (h0 : -9223372036854775808 ≤ n) (h1 : n < 9223372036854775808) : sheetpileref07_Put.f k n size = some (bs (putL n size).1, (putL n size).2) := by
  obtain ⟨k, rfl⟩ : ∃ m, k = m + 10 := ⟨k - 10, by omega⟩
  unfold sheetpileref07_Put.f putL
  by_cases hs : size < 1
  · rw [if_pos hs, if_pos (.inl hs)]; simp only [sheetpileref07_Put.j0]; rw [if_pos trivial]; rfl
  · rw [if_neg hs]
    by_cases hs7 : size > 7
    · rw [if_pos hs7, if_pos (.inr (.inl hs7))]; simp only [sheetpileref07_Put.j0]; rw [if_pos trivial]; rfl
    · rw [if_neg hs7, sheetpileref07_Put.j0]
      by_cases hn : n < 0
      · rw [if_pos (by simpa using hn), if_pos (.inr (.inr hn))]; rfl
      · obtain ⟨s, rfl⟩ := Int.eq_ofNat_of_zero_le (show 0 ≤ size by omega)
        obtain ⟨m, rfl⟩ := Int.eq_ofNat_of_zero_le (show 0 ≤ n by omega)
        rw [if_neg (by simp), if_neg (by omega)]
        simp only [Int.toNat_natCast]
        have := rput_loop s (k + 8 - s) m [] (by omega) (by simp; omega)
        simp only [List.nil_append, List.length_nil, Nat.zero_add] at this
        rw [show k + 8 - s + s + 1 = k + 9 by omega] at this
        rw [show ((0 : Nat) : Int) = 0 from rfl] at this
        refine this.trans ?_
        by_cases hb : m / 256 ^ s > 0
        · rw [if_pos hb, if_pos hb]
        · rw [if_neg hb, if_neg hb]
theorem wrap_step (a c : Nat) (ha : a < 281474976710656) (hc : c < 256) : wrap64 (wrap64 (256 * (a : Int)) + wrap64 (c : Int)) = ((c + 256 * a : Nat) : Int) := by
  rw [wrap_id (a := 256 * (a : Int)) (by omega) (by omega), wrap_id (a := (c : Int)) (by omega) (by omega), wrap_id (by omega) (by omega)]
  omega
theorem rcut_loop (l : List UInt8) (s : Nat) (h7 : s ≤ 7) (hs : s ≤ l.length) (hl : l.length ≤ 281474976710656) (m : Nat) : ∀ k, m ≤ s →
    sheetpileref07_Cut.l0 (k + m + 1) (bs l) (s : Int) ((lowN ((l.take s).drop m) : Nat) : Int) ((m : Int) - 1) = some (((lowN (l.take s) : Nat) : Int), bs (l.drop s), 0) := by
  have htl : (l.take s).length = s := by rw [List.length_take]; omega
  induction m with
  | zero =>
    intro k hm
    rw [sheetpileref07_Cut.l0, if_neg (by omega), if_pos (by omega), bs_size, if_pos (by omega), List.drop_zero, Int.toNat_natCast, bs_extract_end]
  | succ m ih =>
    intro k hm
    rw [show k + (m + 1) + 1 = (k + m + 1) + 1 by omega, show ((m + 1 : Nat) : Int) - 1 = (m : Int) by omega, sheetpileref07_Cut.l0, if_pos (by omega), if_pos (by omega), bs_size, if_pos (by omega)]
    rw [bt_bs l m (by omega)]
    have hc := l[m].toNat_lt
    have hd : (l.take s).drop m = l[m] :: (l.take s).drop (m + 1) := by
      rw [List.drop_eq_getElem_cons (by omega), List.getElem_take]
    have hlt := lowN_lt ((l.take s).drop (m + 1))
    have hlen : ((l.take s).drop (m + 1)).length = s - (m + 1) := by rw [List.length_drop, htl]
    have hp := Nat.pow_le_pow_right (n := 256) (by decide) (show ((l.take s).drop (m + 1)).length ≤ 6 by omega)
    have h6 : (256 : Nat) ^ 6 = 281474976710656 := by decide
    have hn : lowN ((l.take s).drop m) = l[m].toNat + 256 * lowN ((l.take s).drop (m + 1)) := by rw [hd]; rfl
    have hb : lowN ((l.take s).drop (m + 1)) < 281474976710656 := by rw [← h6]; exact Nat.lt_of_lt_of_le hlt hp
    have hw : wrap64 (wrap64 (256 * ((lowN ((l.take s).drop (m + 1)) : Nat) : Int)) + wrap64 ((l[m].toNat : Nat) : Int)) = ((lowN ((l.take s).drop m) : Nat) : Int) := by
      rw [hn]; exact wrap_step _ _ hb hc
    have hx : wrap64 ((m : Int) - 1) = (m : Int) - 1 := wrap_id (by omega) (by omega)
    rw [hw, hx]
    exact ih k (by omega)
theorem ref_Cut_f (k : Nat) (hk : 10 ≤ k) (l : List UInt8) (size : Int) (h : l.length ≤ 281474976710656) (h0 : -9223372036854775808 ≤ size) (h1 : size < 9223372036854775808) : sheetpileref07_Cut.f k (bs l) size = some ((cutL l size).1, bs (cutL l size).2.1, (cutL l size).2.2) := by
  obtain ⟨k, rfl⟩ : ∃ m, k = m + 10 := ⟨k - 10, by omega⟩
  unfold sheetpileref07_Cut.f cutL
  by_cases hs : size < 1
  · rw [if_pos hs, if_pos (.inl hs)]; simp only [sheetpileref07_Cut.j0]; rw [if_pos trivial]; rfl
  · rw [if_neg hs, sheetpileref07_Cut.j0]
    by_cases hs7 : size > 7
    · have h4 : size < 1 ∨ 7 < size := .inr hs7
      have hd : decide (size > 7) = true := decide_eq_true hs7
      simp only [hd, h4, if_true]; rfl
    · have h4 : ¬ (size < 1 ∨ 7 < size) := by omega
      have hd : decide (size > 7) = false := decide_eq_false hs7
      simp only [hd, h4, if_false, Bool.false_eq_true]
      rw [bs_size]
      by_cases h3 : (l.length : Int) < size
      · rw [if_pos h3, if_pos h3]; rfl
      · obtain ⟨s, rfl⟩ := Int.eq_ofNat_of_zero_le (show 0 ≤ size by omega)
        rw [if_neg h3, if_neg h3]
        have htl : (l.take s).length = s := by rw [List.length_take]; omega
        have := rcut_loop l s (by omega) (by omega) h s (k + 8 - s) (Nat.le_refl _)
        rw [List.drop_of_length_le (by omega), show k + 8 - s + s + 1 = k + 9 by omega] at this
        have hx : wrap64 ((s : Int) - 1) = (s : Int) - 1 := wrap_id (by omega) (by omega)
        rw [hx]
        exact this
theorem ref_Text_f (k : Nat) (hk : 10 ≤ k) (l : List UInt8) (h : l.length ≤ 281474976710656) : sheetpileref07_Text.f k (bs l) = some (bs (textL l).1, (textL l).2) := by
  rw [← wire_Text_f k hk l h]
  unfold sheetpileref07_Text.f wire_Text.f
  rw [bs_size, ref_Put_f k hk _ _ (by omega) (by omega), wire_Put_f k hk _ _ (by omega) (by omega)]
theorem ref_Take_f (k : Nat) (hk : 10 ≤ k) (l : List UInt8) (h : l.length ≤ 281474976710656) : sheetpileref07_Take.f k (bs l) = some (bs (takeL l).1, bs (takeL l).2.1, (takeL l).2.2) := by
  rw [← wire_Take_f l h]
  unfold sheetpileref07_Take.f wire_Take.f
  rw [ref_Cut_f k hk l 2 h (by decide) (by decide), wire_Cut_f l 2 h]
end Go.Proofs.Ytcgbjkjacpeheaa.Pure
