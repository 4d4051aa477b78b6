/- What the sums' functions compute: the program's and the reference's are one fold. -/
import Derived.Test.YtcgbjkjacpeheaaPFrx4
import Derived.Test.YtcgbjkjacpeheaaPFrx6
import Derived.Laws.BitsAllLaws
import Derived.Test.YtcgbjkjacpeheaaCrcPlain
namespace Go.Proofs.Ytcgbjkjacpeheaa.PureC
set_option linter.unusedVariables false
set_option linter.unusedSimpArgs false
open Go.RowKit Go.Proofs.Ytcgbjkjacpeheaa.PFr Go.Proofs.Ytcgbjkjacpeheaa.Given Go.Proofs.Ytcgbjkjacpeheaa.CrcPlain Go.Proofs.YtcgbjkjacpeheaaW.PrintWords Go.Proofs.YtcgbjkjacpeheaaW.PrintLast
theorem crc_More_f (a0 : Nat) (s : ByteArray) (h0 : a0 < 4294967296) (h1 : s.size ≤ 281474976710656) : crc_More.f a0 s = some ((more a0 s.data.toList : Nat) : Int) := by
  unfold crc_More.f
  rw [if_pos (by omega), if_pos (by omega), if_pos h1, Int.toNat_natCast]
theorem crc_Sum_f (s : ByteArray) (h1 : s.size ≤ 281474976710656) : crc_Sum.f s = some ((more 0 s.data.toList : Nat) : Int) := by
  unfold crc_Sum.f
  have := crc_More_f 0 s (by decide) h1
  rw [show ((0 : Nat) : Int) = 0 from rfl] at this
  rw [this]; rfl
theorem bt_nat (s : ByteArray) (i : Nat) (h : i < s.data.toList.length) : bt s (i : Int) = ((s.data.toList[i].toNat : Nat) : Int) := by
  have h' : i < s.size := by rw [← data_length]; exact h
  simp [bt, h']
  rfl
theorem wrap_succ (i n : Nat) (h : i < n) (hn : n ≤ 281474976710656) : wrap64 ((i : Int) + 1) = ((i + 1 : Nat) : Int) := by
  unfold wrap64; omega
theorem ref_bits (s : ByteArray) (i : Int) (d : Nat) : ∀ (k x j : Nat), x < 4294967296 → j + d = 8 → sheetpileref06_More.l1 (k + d + 1) s x i j = sheetpileref06_More.l0 k s ((bitN d x : Nat) : Int) (wrap64 (i + 1)) := by
  induction d with
  | zero =>
    intro k x j hx hj
    simp only [Nat.add_zero, sheetpileref06_More.l1]
    rw [if_neg (by omega)]; rfl
  | succ d ih =>
    intro k x j hx hj
    rw [show k + (d + 1) + 1 = (k + d + 1) + 1 by omega]
    simp only [sheetpileref06_More.l1]
    rw [if_pos (by omega)]
    have hm : Int.tmod (x : Int) 2 = ((x % 2 : Nat) : Int) := by rw [Int.tmod_eq_emod_of_nonneg (by omega)]; omega
    have hd : Int.tdiv (x : Int) 2 % 4294967296 = ((x / 2 : Nat) : Int) := by rw [Int.tdiv_eq_ediv_of_nonneg (by omega)]; omega
    have hw : wrap64 ((j : Int) + 1) = ((j + 1 : Nat) : Int) := wrap_succ j 8 (by omega) (by decide)
    have hb : bitN (d + 1) x = bitN d (bit1 x) := by rw [bitN_add d 1]; rfl
    rw [hm, hd, hw, hb]
    by_cases h : x % 2 = 1
    · rw [if_pos (by omega)]
      have hxr : Go.bits .xor .u32 ((x / 2 : Nat) : Int) 2197175160 = ((bit1 x : Nat) : Int) := by
        have := u32_xor_nat (x / 2) 2197175160 (by omega) (by decide)
        rw [show (2197175160 : Int) = ((2197175160 : Nat) : Int) from rfl, this]
        unfold bit1; rw [if_pos h]; rfl
      rw [hxr]
      exact ih k (bit1 x) (j + 1) (bit1_lt hx) (by omega)
    · rw [if_neg (by omega)]
      have : bit1 x = x / 2 := by unfold bit1; rw [if_neg h]
      rw [this]
      exact ih k (x / 2) (j + 1) (by omega) (by omega)
theorem xor_all (x : Nat) (h : x < 4294967296) : Go.bits .xor .u32 (x : Int) 4294967295 = ((neg x : Nat) : Int) := u32_xor_nat x 4294967295 h (by decide)
theorem ref_loop (s : ByteArray) (hs : s.size ≤ 281474976710656) (d : Nat) : ∀ (k x i : Nat), x < 4294967296 → i + d = s.size → sheetpileref06_More.l0 (k + 10 * d + 1) s x i = some ((neg (run x (s.data.toList.drop i)) : Nat) : Int) := by
  induction d with
  | zero =>
    intro k x i hx hi
    simp only [Nat.mul_zero, Nat.add_zero, sheetpileref06_More.l0]
    rw [if_neg (by omega), List.drop_of_length_le (by rw [data_length]; omega), xor_all x hx]; rfl
  | succ d ih =>
    intro k x i hx hi
    have hl : i < s.data.toList.length := by rw [data_length]; omega
    rw [show k + 10 * (d + 1) + 1 = (k + 10 * d + 10) + 1 by omega]
    simp only [sheetpileref06_More.l0]
    rw [if_pos (by omega), if_pos (by omega), bt_nat s i hl]
    generalize hc : s.data.toList[i] = c
    have hc1 : c.toNat < 256 := c.toNat_lt
    rw [show ((c.toNat : Nat) : Int) % 4294967296 = ((c.toNat : Nat) : Int) by omega]
    have hx2 : Go.bits .xor .u32 (x : Int) ((c.toNat : Nat) : Int) = ((x ^^^ c.toNat : Nat) : Int) := u32_xor_nat x c.toNat hx (byte_lt c)
    rw [hx2]
    have := ref_bits s i 8 (k + 10 * d + 1) (x ^^^ c.toNat) 0 (xor_lt32 hx (byte_lt c)) rfl
    rw [show k + 10 * d + 1 + 8 + 1 = k + 10 * d + 10 by omega] at this
    rw [show ((0 : Nat) : Int) = 0 from rfl] at this
    rw [this, wrap_succ i s.size (by omega) hs, ih k (bitN 8 (x ^^^ c.toNat)) (i + 1) (bitN_lt 8 (xor_lt32 hx (byte_lt c))) (by omega)]
    rw [List.drop_eq_getElem_cons hl, hc]
    rfl
theorem ref_More_f (a0 : Nat) (s : ByteArray) (h0 : a0 < 4294967296) (h1 : s.size ≤ 281474976710656) (k : Nat) (hk : 10 * s.size + 1 ≤ k) : sheetpileref06_More.f k a0 s = some ((more a0 s.data.toList : Nat) : Int) := by
  obtain ⟨m, rfl⟩ : ∃ m, k = m + 10 * s.size + 1 := ⟨k - 10 * s.size - 1, by omega⟩
  unfold sheetpileref06_More.f
  rw [xor_all a0 h0]
  have := ref_loop s h1 s.size m (neg a0) 0 (neg_lt h0) (by omega)
  rw [show ((0 : Nat) : Int) = 0 from rfl] at this
  rw [this]; rfl
theorem ref_Sum_f (s : ByteArray) (h1 : s.size ≤ 281474976710656) (k : Nat) (hk : 10 * s.size + 1 ≤ k) : sheetpileref06_Sum.f k s = some ((more 0 s.data.toList : Nat) : Int) := by
  unfold sheetpileref06_Sum.f
  have := ref_More_f 0 s (by decide) h1 k hk
  rw [show ((0 : Nat) : Int) = 0 from rfl] at this
  rw [this]; rfl
theorem u32_nat {a : Int} (h : (Lit.int .u32 a).wf = true) : ∃ n : Nat, a = n ∧ n < 4294967296 := by
  have : 0 ≤ a ∧ a < 4294967296 := by
    have h1 : IntKind.u32.min = 0 := by decide
    have h2 : IntKind.u32.max = 4294967295 := by decide
    simp only [Lit.wf, h1, h2, Bool.and_eq_true, decide_eq_true_eq] at h
    omega
  exact ⟨a.toNat, by omega, by omega⟩
end Go.Proofs.Ytcgbjkjacpeheaa.PureC
