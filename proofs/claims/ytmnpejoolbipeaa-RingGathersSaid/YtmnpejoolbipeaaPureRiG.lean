/- What the document's functions answer of sectors, in lists of bytes. -/
import Derived.Test.YtmnpejoolbipeaaPureRiF
import Derived.Test.YtmnpejoolbipeaaPRix15
namespace Go.Proofs.Ytmnpejoolbipeaa.Pure
set_option linter.unusedVariables false
set_option linter.unusedSimpArgs false
open Go.RowKit Go.Proofs.Ytmnpejoolbipeaa.PRi Go.Proofs.Ytmnpejoolbipeaa.Given Go.Proofs.Ytmnpejoolbipeaa.Bs Go.Proofs.Ytmnpejoolbipeaa.WirePlain Go.Proofs.Ytmnpejoolbipeaa.KeyPlain Go.Proofs.Ytmnpejoolbipeaa.CrcPlain Go.Proofs.YtmnpejoolbipeaaW.PrintWords Go.Proofs.YtmnpejoolbipeaaW.PrintLast Go.Proofs.YtmnpejoolbipeaaW.PrintMore
theorem wrap_step (a c : Nat) (ha : a < 281474976710656) (hc : c < 256) : wrap64 (wrap64 (256 * (a : Int)) + wrap64 (c : Int)) = ((c + 256 * a : Nat) : Int) := by
  rw [wrap_id (a := 256 * (a : Int)) (by omega) (by omega), wrap_id (a := (c : Int)) (by omega) (by omega), wrap_id (by omega) (by omega)]
  omega
theorem rcut_loop (l : List UInt8) (s : Nat) (h7 : s ≤ 7) (hs : s ≤ l.length) (hl : l.length ≤ 281474976710656) (m : Nat) : ∀ k, m ≤ s →
    sheetpileref07_Cut.l0 (k + m + 1) (bs l) (s : Int) ((lowN ((l.take s).drop m) : Nat) : Int) ((m : Int) - 1) = some (((lowN (l.take s) : Nat) : Int), bs (l.drop s), 0) := by
  have htl : (l.take s).length = s := by rw [List.length_take]; omega
  induction m with
  | zero =>
    intro k hm
    rw [sheetpileref07_Cut.l0, if_neg (by omega), if_pos (by omega), bs_size, if_pos (by omega), List.drop_zero, Int.toNat_natCast, bs_extract_end]
  | succ m ih =>
    intro k hm
    rw [show k + (m + 1) + 1 = (k + m + 1) + 1 by omega, show ((m + 1 : Nat) : Int) - 1 = (m : Int) by omega, sheetpileref07_Cut.l0, if_pos (by omega), if_pos (by omega), bs_size, if_pos (by omega)]
    rw [bt_bs l m (by omega)]
    have hc := l[m].toNat_lt
    have hd : (l.take s).drop m = l[m] :: (l.take s).drop (m + 1) := by
      rw [List.drop_eq_getElem_cons (by omega), List.getElem_take]
    have hlt := lowN_lt ((l.take s).drop (m + 1))
    have hlen : ((l.take s).drop (m + 1)).length = s - (m + 1) := by rw [List.length_drop, htl]
    have hp := Nat.pow_le_pow_right (n := 256) (by decide) (show ((l.take s).drop (m + 1)).length ≤ 6 by omega)
    have h6 : (256 : Nat) ^ 6 = 281474976710656 := by decide
    have hn : lowN ((l.take s).drop m) = l[m].toNat + 256 * lowN ((l.take s).drop (m + 1)) := by rw [hd]; rfl
    have hb : lowN ((l.take s).drop (m + 1)) < 281474976710656 := by rw [← h6]; exact Nat.lt_of_lt_of_le hlt hp
    have hw : wrap64 (wrap64 (256 * ((lowN ((l.take s).drop (m + 1)) : Nat) : Int)) + wrap64 ((l[m].toNat : Nat) : Int)) = ((lowN ((l.take s).drop m) : Nat) : Int) := by
      rw [hn]; exact wrap_step _ _ hb hc
    have hx : wrap64 ((m : Int) - 1) = (m : Int) - 1 := wrap_id (by omega) (by omega)
    rw [hw, hx]
    exact ih k (by omega)
theorem ref_Cut_f (k : Nat) (hk : 10 ≤ k) (l : List UInt8) (size : Int) (h : l.length ≤ 281474976710656) (h0 : -9223372036854775808 ≤ size) (h1 : size < 9223372036854775808) : sheetpileref07_Cut.f k (bs l) size = some ((cutL l size).1, bs (cutL l size).2.1, (cutL l size).2.2) := by
  obtain ⟨k, rfl⟩ : ∃ m, k = m + 10 := ⟨k - 10, by omega⟩
  unfold sheetpileref07_Cut.f cutL
  by_cases hs : size < 1
  · rw [if_pos hs, if_pos (.inl hs)]; simp only [sheetpileref07_Cut.j0]; rw [if_pos trivial]; rfl
  · rw [if_neg hs, sheetpileref07_Cut.j0]
    by_cases hs7 : size > 7
    · have h4 : size < 1 ∨ 7 < size := .inr hs7
      have hd : decide (size > 7) = true := decide_eq_true hs7
      simp only [hd, h4, if_true]; rfl
    · have h4 : ¬ (size < 1 ∨ 7 < size) := by omega
      have hd : decide (size > 7) = false := decide_eq_false hs7
      simp only [hd, h4, if_false, Bool.false_eq_true]
      rw [bs_size]
      by_cases h3 : (l.length : Int) < size
      · rw [if_pos h3, if_pos h3]; rfl
      · obtain ⟨s, rfl⟩ := Int.eq_ofNat_of_zero_le (show 0 ≤ size by omega)
        rw [if_neg h3, if_neg h3]
        have htl : (l.take s).length = s := by rw [List.length_take]; omega
        have := rcut_loop l s (by omega) (by omega) h s (k + 8 - s) (Nat.le_refl _)
        rw [List.drop_of_length_le (by omega), show k + 8 - s + s + 1 = k + 9 by omega] at this
        have hx : wrap64 ((s : Int) - 1) = (s : Int) - 1 := wrap_id (by omega) (by omega)
        rw [hx]
        exact this
theorem ref_Take_f (k : Nat) (hk : 10 ≤ k) (l : List UInt8) (h : l.length ≤ 281474976710656) : sheetpileref07_Take.f k (bs l) = some (bs (takeL l).1, bs (takeL l).2.1, (takeL l).2.2) := by
  rw [← wire_Take_f l h]
  unfold sheetpileref07_Take.f wire_Take.f
  rw [ref_Cut_f k hk l 2 h (by decide) (by decide), wire_Cut_f l 2 h]
theorem bt_nat (s : ByteArray) (i : Nat) (h : i < s.data.toList.length) : bt s (i : Int) = ((s.data.toList[i].toNat : Nat) : Int) := by
  have h' : i < s.size := by rw [← data_length]; exact h
  simp [bt, h']
  rfl
theorem ref_bits (s : ByteArray) (i : Int) (d : Nat) : ∀ (k x j : Nat), x < 4294967296 → j + d = 8 → sheetpileref06_More.l1 (k + d + 1) s x i j = sheetpileref06_More.l0 k s ((bitN d x : Nat) : Int) (wrap64 (i + 1)) := by
  induction d with
  | zero =>
    intro k x j hx hj
    simp only [Nat.add_zero, sheetpileref06_More.l1]
    rw [if_neg (by omega)]; rfl
  | succ d ih =>
    intro k x j hx hj
    rw [show k + (d + 1) + 1 = (k + d + 1) + 1 by omega]
    simp only [sheetpileref06_More.l1]
    rw [if_pos (by omega)]
    have hm : Int.tmod (x : Int) 2 = ((x % 2 : Nat) : Int) := by rw [Int.tmod_eq_emod_of_nonneg (by omega)]; omega
    have hd : Int.tdiv (x : Int) 2 % 4294967296 = ((x / 2 : Nat) : Int) := by rw [Int.tdiv_eq_ediv_of_nonneg (by omega)]; omega
    have hw : wrap64 ((j : Int) + 1) = ((j + 1 : Nat) : Int) := wrap_succ j 8 (by omega) (by decide)
    have hb : bitN (d + 1) x = bitN d (bit1 x) := by rw [bitN_add d 1]; rfl
    rw [hm, hd, hw, hb]
    by_cases h : x % 2 = 1
    · rw [if_pos (by omega)]
      have hxr : Go.bits .xor .u32 ((x / 2 : Nat) : Int) 2197175160 = ((bit1 x : Nat) : Int) := by
        have := u32_xor_nat (x / 2) 2197175160 (by omega) (by decide)
        rw [show (2197175160 : Int) = ((2197175160 : Nat) : Int) from rfl, this]
        unfold bit1; rw [if_pos h]; rfl
      rw [hxr]
      exact ih k (bit1 x) (j + 1) (bit1_lt hx) (by omega)
    · rw [if_neg (by omega)]
      have : bit1 x = x / 2 := by unfold bit1; rw [if_neg h]
      rw [this]
      exact ih k (x / 2) (j + 1) (by omega) (by omega)
theorem xor_all (x : Nat) (h : x < 4294967296) : Go.bits .xor .u32 (x : Int) 4294967295 = ((neg x : Nat) : Int) := u32_xor_nat x 4294967295 h (by decide)
theorem ref_loop (s : ByteArray) (hs : s.size ≤ 281474976710656) (d : Nat) : ∀ (k x i : Nat), x < 4294967296 → i + d = s.size → sheetpileref06_More.l0 (k + 10 * d + 1) s x i = some ((neg (run x (s.data.toList.drop i)) : Nat) : Int) := by
  induction d with
  | zero =>
    intro k x i hx hi
    simp only [Nat.mul_zero, Nat.add_zero, sheetpileref06_More.l0]
    rw [if_neg (by omega), List.drop_of_length_le (by rw [data_length]; omega), xor_all x hx]; rfl
  | succ d ih =>
    intro k x i hx hi
    have hl : i < s.data.toList.length := by rw [data_length]; omega
    rw [show k + 10 * (d + 1) + 1 = (k + 10 * d + 10) + 1 by omega]
    simp only [sheetpileref06_More.l0]
    rw [if_pos (by omega), if_pos (by omega), bt_nat s i hl]
    generalize hc : s.data.toList[i] = c
    have hc1 : c.toNat < 256 := c.toNat_lt
    rw [show ((c.toNat : Nat) : Int) % 4294967296 = ((c.toNat : Nat) : Int) by omega]
    have hx2 : Go.bits .xor .u32 (x : Int) ((c.toNat : Nat) : Int) = ((x ^^^ c.toNat : Nat) : Int) := u32_xor_nat x c.toNat hx (byte_lt c)
    rw [hx2]
    have := ref_bits s i 8 (k + 10 * d + 1) (x ^^^ c.toNat) 0 (xor_lt32 hx (byte_lt c)) rfl
    rw [show k + 10 * d + 1 + 8 + 1 = k + 10 * d + 10 by omega] at this
    rw [show ((0 : Nat) : Int) = 0 from rfl] at this
    rw [this, wrap_succ i s.size (by omega) hs, ih k (bitN 8 (x ^^^ c.toNat)) (i + 1) (bitN_lt 8 (xor_lt32 hx (byte_lt c))) (by omega)]
    rw [List.drop_eq_getElem_cons hl, hc]
    rfl
theorem ref_More_f (a0 : Nat) (s : ByteArray) (h0 : a0 < 4294967296) (h1 : s.size ≤ 281474976710656) (k : Nat) (hk : 10 * s.size + 1 ≤ k) : sheetpileref06_More.f k a0 s = some ((more a0 s.data.toList : Nat) : Int) := by
  obtain ⟨m, rfl⟩ : ∃ m, k = m + 10 * s.size + 1 := ⟨k - 10 * s.size - 1, by omega⟩
  unfold sheetpileref06_More.f
  rw [xor_all a0 h0]
  have := ref_loop s h1 s.size m (neg a0) 0 (neg_lt h0) (by omega)
  rw [show ((0 : Nat) : Int) = 0 from rfl] at this
  rw [this]; rfl
theorem ref_Sum_f (s : ByteArray) (h1 : s.size ≤ 281474976710656) (k : Nat) (hk : 10 * s.size + 1 ≤ k) : sheetpileref06_Sum.f k s = some ((more 0 s.data.toList : Nat) : Int) := by
  unfold sheetpileref06_Sum.f
  have := ref_More_f 0 s (by decide) h1 k hk
  rw [show ((0 : Nat) : Int) = 0 from rfl] at this
  rw [this]; rfl
def recL (q s : Nat) (t : List UInt8) : List UInt8 := [73, 78, 84] ++ (lowB 7 q ++ (lowB 2 s ++ (lowB 2 t.length ++ t)))
theorem recL_length (q s : Nat) (t : List UInt8) : (recL q s t).length = t.length + 14 := by
  simp [recL, lowB_length]; omega
theorem readL_zero {l : List UInt8} (h : (readL l).2.2.2 = 0) : ∃ (a b : Nat) (t : List UInt8), a < 256 ^ 7 ∧ b < 256 ^ 2 ∧ t.length < 65536 ∧ l = recL a b t := by
  unfold readL at h
  split at h
  · rename_i h3
    split at h
    · rename_i hc
      obtain ⟨e1, e2, e3, e4⟩ := hc
      obtain ⟨a, _, ha, la⟩ := cutL_back (l := l.drop 3) (r := (cutL (l.drop 3) 7).2.1) (s := 7) (n := (cutL (l.drop 3) 7).1) (by decide) (by decide) (by rw [← e1]; rfl)
      generalize (cutL (l.drop 3) 7).2.1 = r1 at *
      obtain ⟨b, _, hb, lb⟩ := cutL_back (l := r1) (r := (cutL r1 2).2.1) (s := 2) (n := (cutL r1 2).1) (by decide) (by decide) (by rw [← e2]; rfl)
      generalize (cutL r1 2).2.1 = r2 at *
      obtain ⟨lc, hc⟩ := takeL_back (l := r2) (a := (takeL r2).1) (b := (takeL r2).2.1) (by rw [← e3])
      refine ⟨a, b, (takeL r2).1, ha, hb, hc, ?_⟩
      rw [e4, List.append_nil] at lc
      rw [recL, ← lc, ← lb, ← la, ← h3, List.take_append_drop]
    · simp at h
  · simp at h
theorem readL_err (l : List UInt8) : (readL l).2.2.2 = 0 ∨ readL l = (0, 0, [], 5) := by
  unfold readL
  split
  · split
    · exact .inl rfl
    · exact .inr rfl
  · exact .inr rfl
theorem ref14_Read_f (k : Nat) (hk : 11 ≤ k) (l : List UInt8) (h : l.length ≤ 281474976710656) : sheetpileref14_Read.f k (bs l) = some ((readL l).1, (readL l).2.1, bs (readL l).2.2.1, (readL l).2.2.2) := by
  obtain ⟨k, rfl⟩ : ∃ m, k = m + 1 := ⟨k - 1, by omega⟩
  unfold sheetpileref14_Read.f
  rw [bs_size]
  by_cases h14 : (l.length : Int) < 14
  · rw [if_pos h14]
    have hr : readL l = (0, 0, [], 5) := by
      refine (readL_err l).resolve_left fun hz => ?_
      obtain ⟨a, b, t, _, _, _, rfl⟩ := readL_zero hz
      rw [recL_length] at h14; omega
    rw [hr]; simp only [sheetpileref14_Read.j0]; rfl
  · rw [if_neg h14, if_pos (by decide), if_pos (by omega)]
    simp only [sheetpileref14_Read.j0]
    rw [bs_extract_zero, bs_toList, bs_size]
    by_cases hp : l.take 3 = [73, 78, 84]
    · rw [if_neg (by simpa using hp), if_pos (by omega), bs_extract_end]
      have hd : (l.drop 3).length ≤ 281474976710656 := by rw [List.length_drop]; omega
      rw [ref_Cut_f k (by omega) _ 7 hd (by decide) (by decide), Option.bind_some]
      have hc1 := cut_len (l.drop 3) 7
      simp only []
      rw [ref_Cut_f k (by omega) _ 2 (by omega) (by decide) (by decide), Option.bind_some]
      have hc2 := cut_len (cutL (l.drop 3) 7).2.1 2
      simp only []
      rw [ref_Take_f k (by omega) _ (by omega), Option.bind_some]
      have o1 := cutL_ok (l := l.drop 3) (s := 7) (by decide) (by decide) (by rw [List.length_drop]; omega)
      have o2 := cutL_ok (l := (l.drop 3).drop 7) (s := 2) (by decide) (by decide) (by rw [List.length_drop, List.length_drop]; omega)
      rw [show ((7 : Nat) : Int) = 7 from rfl] at o1
      rw [show ((2 : Nat) : Int) = 2 from rfl] at o2
      unfold readL
      rw [if_pos hp]
      simp only [o1, o2, bs_toList, true_and]
      by_cases e3 : (takeL (((l.drop 3).drop 7).drop 2)).2.2 = 0
      · by_cases e4 : (takeL (((l.drop 3).drop 7).drop 2)).2.1 = []
        · rw [if_pos e3, if_pos e4, if_pos ⟨e3, e4⟩]
        · rw [if_pos e3, if_neg e4, if_neg (fun hh => e4 hh.2)]; rfl
      · rw [if_neg e3, if_neg (fun hh => e3 hh.1)]; rfl
    · rw [if_pos (by simpa using hp)]
      unfold readL
      rw [if_neg hp]; rfl
theorem ref_Open_j0 (k : Nat) (l : List UInt8) (hl : l.length ≤ 100000) (h26 : 26 ≤ l.length) (hk : 1000010 ≤ k) (t : List UInt8 × List UInt8 × Int) (ht : t.2.1.length ≤ 100000) (c1 c2 c3 c4 : Int) (fl : Bool) (hf : fl = true ↔ ¬ (t.2.2 = 0 ∧ 4 ≤ t.2.1.length)) :
    sheetpileref11_Open.j0 (k + 1) (bs l) (bs t.2.1) fl c1 c2 c3 c4 (bs t.1) = some (six (openU l c1 c2 c3 c4 t)) := by
  rw [sheetpileref11_Open.j0]
  unfold openU
  by_cases h1 : t.2.2 = 0 ∧ 4 ≤ t.2.1.length
  · have e : fl = false := by cases fl with | false => rfl | true => exact absurd h1 (hf.1 rfl)
    subst e
    rw [if_neg (by decide), if_pos h1, bs_size, bs_size]
    by_cases h2 : t.2.1.length ≤ 4
    · have hw : wrap64 ((l.length : Int) - 4) = ((l.length - 4 : Nat) : Int) := by rw [wrap_id (by omega) (by omega)]; omega
      rw [if_neg (by omega), if_pos h2, ref_Cut_f k (by omega) _ 4 (by omega) (by decide) (by decide), Option.bind_some, hw, if_pos (by omega), if_pos (by omega), Int.toNat_natCast, bs_extract_zero, ref_Sum_f _ (by rw [bs_size, List.length_take]; omega) k (by rw [bs_size, List.length_take]; omega), Option.bind_some, bs_data]
      simp only []
      by_cases h3 : (cutL t.2.1 4).1 = wrap64 ((more 0 (l.take (l.length - 4)) : Nat) : Int)
      · rw [if_pos h3, if_pos h3]; rfl
      · rw [if_neg h3, if_neg h3]; rfl
    · rw [if_pos (by omega), if_neg h2]; rfl
  · rw [if_pos (hf.2 h1), if_neg h1]; rfl
theorem ref_Open_f (k : Nat) (hk : 1000010 ≤ k) (l : List UInt8) (hl : l.length ≤ 100000) : sheetpileref11_Open.f (k + 1) (bs l) = some (six (openL l)) := by
  unfold sheetpileref11_Open.f openL
  rw [bs_size]
  by_cases h26 : l.length < 26
  · rw [if_pos (by omega), if_pos h26]; rfl
  · rw [if_neg (by omega), if_neg h26, if_pos (by decide), if_pos (by omega), bs_extract_zero, bs_toList]
    by_cases hp : l.take 3 = [83, 80, 76]
    · rw [if_pos hp, if_pos hp, bs_extract_end]
      have hd : (l.drop 3).length ≤ l.length := by rw [List.length_drop]; omega
      rw [ref_Cut_f _ (by omega) _ 4 (by omega) (by decide) (by decide), Option.bind_some]
      have hc1 := cut_len (l.drop 3) 4
      simp only []
      generalize cutL (l.drop 3) 4 = c1 at *
      rw [ref_Cut_f _ (by omega) _ 2 (by omega) (by decide) (by decide), Option.bind_some]
      have hc2 := cut_len c1.2.1 2
      simp only []
      generalize cutL c1.2.1 2 = c2 at *
      rw [ref_Cut_f _ (by omega) _ 4 (by omega) (by decide) (by decide), Option.bind_some]
      have hc3 := cut_len c2.2.1 4
      simp only []
      generalize cutL c2.2.1 4 = c3 at *
      rw [ref_Cut_f _ (by omega) _ 7 (by omega) (by decide) (by decide), Option.bind_some]
      have hc4 := cut_len c3.2.1 7
      simp only []
      generalize cutL c3.2.1 7 = c4 at *
      rw [ref_Take_f _ (by omega) _ (by omega), Option.bind_some]
      have ht := take_len c4.2.1
      unfold openV
      generalize takeL c4.2.1 = t at *
      simp only [bs_size]
      by_cases e : t.2.2 = 0
      · rw [if_pos e]
        exact ref_Open_j0 k l hl (by omega) hk t (by omega) c1.1 c2.1 c3.1 c4.1 _ (by rw [decide_eq_true_iff]; omega)
      · rw [if_neg e]
        exact ref_Open_j0 k l hl (by omega) hk t (by omega) c1.1 c2.1 c3.1 c4.1 _ ⟨fun _ h => e h.1, fun _ => rfl⟩
    · rw [if_neg hp, if_neg hp]; rfl
theorem ref_Own_f (k : Nat) (hk : 1000011 ≤ k) (l : List UInt8) (hl : l.length ≤ 100000) (a d p : Int) : sheetpileref11_Own.f k (bs l) a d p = some (six (ownL l a d p)) := by
  obtain ⟨k, rfl⟩ : ∃ k', k = k' + 1 := ⟨k - 1, by omega⟩
  unfold sheetpileref11_Own.f ownL
  rw [ref_Open_f k (by omega) l hl, Option.bind_some]
  generalize openL l = o
  obtain ⟨o1, o2, o3, o4, o5, o6⟩ := o
  change (if o6 = 0 then (if o1 = a then (if o2 = d then (if o3 = p then some (o1, o2, o3, o4, bs o5, 0) else some (0, 0, 0, 0, bs [], 5)) else some (0, 0, 0, 0, bs [], 5)) else some (0, 0, 0, 0, bs [], 5)) else some (0, 0, 0, 0, bs [], o6)) = some (six (if o6 = 0 then (if o1 = a ∧ o2 = d ∧ o3 = p then (o1, o2, o3, o4, o5, o6) else (0, 0, 0, 0, [], 5)) else (0, 0, 0, 0, [], o6)))
  by_cases h6 : o6 = 0
  · subst h6
    rw [if_pos rfl, if_pos rfl]
    by_cases h1 : o1 = a
    · rw [if_pos h1]
      by_cases h2 : o2 = d
      · rw [if_pos h2]
        by_cases h3 : o3 = p
        · rw [if_pos h3, if_pos ⟨h1, h2, h3⟩]; rfl
        · rw [if_neg h3, if_neg (fun h => h3 h.2.2)]; rfl
      · rw [if_neg h2, if_neg (fun h => h2 h.2.1)]; rfl
    · rw [if_neg h1, if_neg (fun h => h1 h.1)]; rfl
  · rw [if_neg h6, if_neg h6]; rfl
end Go.Proofs.Ytmnpejoolbipeaa.Pure
