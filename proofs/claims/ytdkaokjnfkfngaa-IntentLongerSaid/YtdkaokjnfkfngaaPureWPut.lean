/- What wire's Put and Text answer, in lists of bytes, where these are printed in a group of their own. -/
import Derived.Test.YtdkaokjnfkfngaaPWirx1
import Derived.Test.YtdkaokjnfkfngaaBs
import Derived.Test.YtdkaokjnfkfngaaWirePlain
namespace Go.Proofs.Ytdkaokjnfkfngaa.Pure
set_option linter.unusedVariables false
set_option linter.unusedSimpArgs false
open Go.RowKit Go.Proofs.Ytdkaokjnfkfngaa.PWir Go.Proofs.Ytdkaokjnfkfngaa.Bs Go.Proofs.Ytdkaokjnfkfngaa.WirePlain Go.Proofs.YtdkaokjnfkfngaaW.PrintWords Go.Proofs.YtdkaokjnfkfngaaW.PrintLast
theorem tdiv_nat (n : Nat) : wrap64 (Int.tdiv (n : Int) 256) = ((n / 256 : Nat) : Int) ∨ 9223372036854775808 ≤ n := by
  by_cases h : n < 9223372036854775808
  · left
    rw [Int.tdiv_eq_ediv_of_nonneg (by omega)]
    unfold wrap64; omega
  · right; omega
theorem byte_nat (n : Nat) : Int.tmod (n : Int) 256 % 256 = (((UInt8.ofNat (n % 256)).toNat : Nat) : Int) := by
  rw [Int.tmod_eq_emod_of_nonneg (by omega)]
  have : (UInt8.ofNat (n % 256)).toNat = n % 256 := by simp [UInt8.toNat_ofNat']
  rw [this]; omega
theorem put_loop (d : Nat) : ∀ (k n : Nat) (pre : List UInt8), n < 9223372036854775808 → pre.length + d ≤ 7 →
    wire_Put.l0 (k + d + 1) n (numsOf pre ++ List.replicate d 0) ((pre.length + d : Nat) : Int) ((pre.length : Nat) : Int) =
      some (if n / 256 ^ d > 0 then (bs [], 12) else (bs (pre ++ lowB d n), 0)) := by
  induction d with
  | zero =>
    intro k n pre hn hp
    simp only [wire_Put.l0]
    rw [if_neg (by omega)]
    by_cases h : 0 < n
    · rw [if_pos (by omega), if_pos (by simp; omega)]; rfl
    · rw [if_neg (by omega), if_neg (by simp; omega)]
      simp only [List.replicate_zero, List.append_nil, lowB, strOfNums_numsOf]
  | succ d ih =>
    intro k n pre hn hp
    rw [show k + (d + 1) + 1 = (k + d + 1) + 1 by omega, wire_Put.l0]
    have hl : (numsOf pre ++ List.replicate (d + 1) (0 : Int)).length = pre.length + d + 1 := by simp [numsOf_length]; omega
    rw [if_pos (by omega), if_pos (by omega), hl, if_pos (by omega)]
    rw [Int.toNat_natCast, byte_nat]
    have hw : wrap64 (Int.tdiv (n : Int) 256) = ((n / 256 : Nat) : Int) := (tdiv_nat n).resolve_right (by omega)
    have hs : wrap64 ((pre.length : Int) + 1) = ((pre.length + 1 : Nat) : Int) := by unfold wrap64; omega
    rw [hw, hs]
    have hset : (numsOf pre ++ List.replicate (d + 1) (0 : Int)).set pre.length (((UInt8.ofNat (n % 256)).toNat : Nat) : Int) = numsOf (pre ++ [UInt8.ofNat (n % 256)]) ++ List.replicate d 0 := by
      rw [List.set_append_right _ _ (by rw [numsOf_length]; omega), numsOf_length, Nat.sub_self, List.replicate_succ, List.set_cons_zero]
      simp [numsOf]
    rw [hset]
    have := ih k (n / 256) (pre ++ [UInt8.ofNat (n % 256)]) (by omega) (by simp; omega)
    rw [List.length_append, List.length_singleton, show pre.length + 1 + d = pre.length + (d + 1) by omega] at this
    rw [this, Nat.div_div_eq_div_mul, show 256 * 256 ^ d = 256 ^ (d + 1) by rw [Nat.pow_succ, Nat.mul_comm]]
    simp only [lowB, List.append_assoc, List.singleton_append]
theorem wire_Put_f (k : Nat) (hk : 10 ≤ k) (n size : Int) (h0 : -9223372036854775808 ≤ n) (h1 : n < 9223372036854775808) : wire_Put.f k n size = some (bs (putL n size).1, (putL n size).2) := by
  obtain ⟨k, rfl⟩ : ∃ m, k = m + 10 := ⟨k - 10, by omega⟩
  unfold wire_Put.f putL
  by_cases hs : size < 1
  · rw [if_pos hs, if_pos (.inl hs)]; simp only [wire_Put.j0]; rw [if_pos trivial]; rfl
  · rw [if_neg hs]
    by_cases hs7 : size > 7
    · rw [if_pos hs7, if_pos (.inr (.inl hs7))]; simp only [wire_Put.j0]; rw [if_pos trivial]; rfl
    · rw [if_neg hs7]
      simp only [wire_Put.j0]
      by_cases hn : n < 0
      · rw [if_pos (by simpa using hn), if_pos (.inr (.inr hn))]; rfl
      · obtain ⟨s, rfl⟩ := Int.eq_ofNat_of_zero_le (show 0 ≤ size by omega)
        obtain ⟨m, rfl⟩ := Int.eq_ofNat_of_zero_le (show 0 ≤ n by omega)
        rw [if_neg (by simp), if_pos (by omega), if_pos (by omega), if_neg (by omega)]
        simp only [Option.bind_some, Int.toNat_natCast, List.length_replicate]
        have := put_loop s (k + 8 - s) m [] (by omega) (by simp; omega)
        simp only [numsOf, List.map_nil, List.nil_append, List.length_nil, Nat.zero_add] at this
        rw [show k + 8 - s + s + 1 = k + 9 by omega] at this
        rw [show ((0 : Nat) : Int) = 0 from rfl] at this
        rw [this]
        by_cases hb : m / 256 ^ s > 0
        · rw [if_pos hb, if_pos hb]
        · rw [if_neg hb, if_neg hb]
theorem wire_Text_f (k : Nat) (hk : 10 ≤ k) (l : List UInt8) (h : l.length ≤ 281474976710656) : wire_Text.f k (bs l) = some (bs (textL l).1, (textL l).2) := by
  unfold wire_Text.f textL
  rw [bs_size, wire_Put_f k hk _ _ (by omega) (by omega), Option.bind_some]
  have e2 : (256 : Nat) ^ 2 = 65536 := by decide
  by_cases hl : l.length < 65536
  · have hp := putL_ok (n := l.length) (s := 2) (by decide) (by decide) (by omega)
    rw [show ((2 : Nat) : Int) = 2 from rfl] at hp
    rw [hp, if_pos rfl, if_pos hl]
    have hb := lowB_length 2 l.length
    rw [if_pos (by rw [bs_size, hb]; omega), bs_append]
  · have hp : putL l.length 2 = ([], 12) := by
      unfold putL
      rw [if_neg (by omega), if_pos ?_]
      have : l.length / 65536 > 0 := Nat.div_pos (by omega) (by decide)
      simpa [e2] using this
    rw [hp, if_neg (by decide), if_neg hl]; rfl
end Go.Proofs.Ytdkaokjnfkfngaa.Pure
