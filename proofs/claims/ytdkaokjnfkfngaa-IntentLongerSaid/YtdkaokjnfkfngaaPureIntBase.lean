/- What intent's Write and Read answer, and the reference's, in lists of bytes. -/
import Derived.Test.YtdkaokjnfkfngaaPIntx3
import Derived.Test.YtdkaokjnfkfngaaPIntx4
import Derived.Test.YtdkaokjnfkfngaaPureWCut
import Derived.Test.YtdkaokjnfkfngaaIntWrite
namespace Go.Proofs.Ytdkaokjnfkfngaa.Pure
set_option linter.unusedVariables false
set_option linter.unusedSimpArgs false
open Go.RowKit Go.Proofs.Ytdkaokjnfkfngaa.PInt Go.Proofs.Ytdkaokjnfkfngaa.PWir Go.Proofs.Ytdkaokjnfkfngaa.Given Go.Proofs.Ytdkaokjnfkfngaa.Bs Go.Proofs.Ytdkaokjnfkfngaa.WirePlain Go.Proofs.YtdkaokjnfkfngaaW.PrintWords Go.Proofs.YtdkaokjnfkfngaaW.PrintLast Go.Proofs.YtdkaokjnfkfngaaW.PrintMore
/-- An intent's record. -/
def recL (q s : Nat) (t : List UInt8) : List UInt8 := [73, 78, 84] ++ (lowB 7 q ++ (lowB 2 s ++ (lowB 2 t.length ++ t)))
theorem recL_length (q s : Nat) (t : List UInt8) : (recL q s t).length = t.length + 14 := by
  simp [recL, lowB_length]; omega
def writeL (q s : Int) (t : List UInt8) : List UInt8 × Int :=
  if (putL q 7).2 = 0 then (if (putL s 2).2 = 0 then (if (textL t).2 = 0 then ([73, 78, 84] ++ (putL q 7).1 ++ (putL s 2).1 ++ (textL t).1, 0) else ([], (textL t).2)) else ([], (putL s 2).2)) else ([], (putL q 7).2)
def readL (l : List UInt8) : Int × Int × List UInt8 × Int :=
  if l.take 3 = [73, 78, 84] then
    (if (cutL (l.drop 3) 7).2.2 = 0 ∧ (cutL (cutL (l.drop 3) 7).2.1 2).2.2 = 0 ∧ (takeL (cutL (cutL (l.drop 3) 7).2.1 2).2.1).2.2 = 0 ∧ (takeL (cutL (cutL (l.drop 3) 7).2.1 2).2.1).2.1 = [] then
      ((cutL (l.drop 3) 7).1, (cutL (cutL (l.drop 3) 7).2.1 2).1, (takeL (cutL (cutL (l.drop 3) 7).2.1 2).2.1).1, 0) else (0, 0, [], 5))
  else (0, 0, [], 5)
theorem putL_len (n size : Int) : (putL n size).1.length ≤ 7 := by
  unfold putL
  split
  · simp
  · split
    · simp
    · rw [lowB_length]; omega
theorem putL_zero {n : Int} {s : Nat} (h1 : 1 ≤ s) (h7 : s ≤ 7) (h : (putL n s).2 = 0) : ∃ m : Nat, n = m ∧ m < 256 ^ s ∧ putL n s = (lowB s m, 0) := by
  unfold putL at h
  split at h
  · simp at h
  · rename_i hc
    split at h
    · simp at h
    · rename_i hb
      obtain ⟨m, rfl⟩ := Int.eq_ofNat_of_zero_le (show 0 ≤ n by omega)
      have hp : 0 < 256 ^ s := Nat.pow_pos (by decide)
      have hlt : m < 256 ^ s := (Nat.div_eq_zero_iff_lt hp).1 (Nat.eq_zero_of_not_pos (by simpa using hb))
      exact ⟨m, rfl, hlt, putL_ok h1 h7 hlt⟩
theorem textL_zero {t : List UInt8} (h : (textL t).2 = 0) : t.length < 65536 ∧ textL t = (lowB 2 t.length ++ t, 0) := by
  unfold textL at h
  split at h
  · rename_i hl; exact ⟨hl, textL_ok hl⟩
  · simp at h
theorem writeL_ok {q s : Nat} {t : List UInt8} (hq : q < 256 ^ 7) (hs : s < 256 ^ 2) (ht : t.length < 65536) : writeL q s t = (recL q s t, 0) := by
  unfold writeL
  have h1 := putL_ok (n := q) (s := 7) (by decide) (by decide) hq
  have h2 := putL_ok (n := s) (s := 2) (by decide) (by decide) hs
  rw [show ((7 : Nat) : Int) = 7 from rfl] at h1
  rw [show ((2 : Nat) : Int) = 2 from rfl] at h2
  rw [h1, h2, textL_ok ht]
  simp [recL]
theorem writeL_zero {q s : Int} {t : List UInt8} (h : (writeL q s t).2 = 0) : ∃ a b : Nat, q = a ∧ s = b ∧ a < 256 ^ 7 ∧ b < 256 ^ 2 ∧ t.length < 65536 ∧ writeL q s t = (recL a b t, 0) := by
  have h1 : (putL q 7).2 = 0 := by
    refine Classical.byContradiction fun c => ?_
    unfold writeL at h; rw [if_neg c] at h; exact c h
  have h2 : (putL s 2).2 = 0 := by
    refine Classical.byContradiction fun c => ?_
    unfold writeL at h; rw [if_pos h1, if_neg c] at h; exact c h
  have h3 : (textL t).2 = 0 := by
    refine Classical.byContradiction fun c => ?_
    unfold writeL at h; rw [if_pos h1, if_pos h2, if_neg c] at h; exact c h
  obtain ⟨a, rfl, ha, _⟩ := putL_zero (s := 7) (by decide) (by decide) h1
  obtain ⟨b, rfl, hb, _⟩ := putL_zero (s := 2) (by decide) (by decide) h2
  obtain ⟨ht, _⟩ := textL_zero h3
  exact ⟨a, b, rfl, rfl, ha, hb, ht, writeL_ok ha hb ht⟩
theorem readL_rec {q s : Nat} {t : List UInt8} (hq : q < 256 ^ 7) (hs : s < 256 ^ 2) (ht : t.length < 65536) : readL (recL q s t) = ((q : Int), (s : Int), t, 0) := by
  unfold readL
  have h1 : (recL q s t).take 3 = [73, 78, 84] := rfl
  have h2 : (recL q s t).drop 3 = lowB 7 q ++ (lowB 2 s ++ (lowB 2 t.length ++ t)) := rfl
  have c1 := cutL_put 7 q (lowB 2 s ++ (lowB 2 t.length ++ t)) (by decide) (by decide) hq
  have c2 := cutL_put 2 s (lowB 2 t.length ++ t) (by decide) (by decide) hs
  have c3 := takeL_text t [] ht
  rw [show ((7 : Nat) : Int) = 7 from rfl] at c1
  rw [show ((2 : Nat) : Int) = 2 from rfl] at c2
  rw [List.append_nil] at c3
  rw [if_pos h1, h2, c1]
  simp only [c2, c3]
  simp
theorem readL_zero {l : List UInt8} (h : (readL l).2.2.2 = 0) : ∃ (a b : Nat) (t : List UInt8), a < 256 ^ 7 ∧ b < 256 ^ 2 ∧ t.length < 65536 ∧ l = recL a b t := by
  unfold readL at h
  split at h
  · rename_i h3
    split at h
    · rename_i hc
      obtain ⟨e1, e2, e3, e4⟩ := hc
      obtain ⟨a, _, ha, la⟩ := cutL_back (l := l.drop 3) (r := (cutL (l.drop 3) 7).2.1) (s := 7) (n := (cutL (l.drop 3) 7).1) (by decide) (by decide) (by rw [← e1]; rfl)
      generalize (cutL (l.drop 3) 7).2.1 = r1 at *
      obtain ⟨b, _, hb, lb⟩ := cutL_back (l := r1) (r := (cutL r1 2).2.1) (s := 2) (n := (cutL r1 2).1) (by decide) (by decide) (by rw [← e2]; rfl)
      generalize (cutL r1 2).2.1 = r2 at *
      obtain ⟨lc, hc⟩ := takeL_back (l := r2) (a := (takeL r2).1) (b := (takeL r2).2.1) (by rw [← e3])
      refine ⟨a, b, (takeL r2).1, ha, hb, hc, ?_⟩
      rw [e4, List.append_nil] at lc
      rw [recL, ← lc, ← lb, ← la, ← h3, List.take_append_drop]
    · simp at h
  · simp at h
theorem readL_err (l : List UInt8) : (readL l).2.2.2 = 0 ∨ readL l = (0, 0, [], 5) := by
  unfold readL
  split
  · split
    · exact .inl rfl
    · exact .inr rfl
  · exact .inr rfl
theorem cutL_errs (l : List UInt8) (s : Nat) (h1 : 1 ≤ s) (h7 : s ≤ 7) : (cutL l s).2.2 = 0 ∨ cutL l s = (0, [], 4) := by
  unfold cutL
  rw [if_neg (by omega)]
  split
  · exact .inr rfl
  · exact .inl rfl
theorem lit_INT : (⟨#[73, 78, 84]⟩ : ByteArray) = bs [73, 78, 84] := rfl
theorem lit_nil : (⟨#[]⟩ : ByteArray) = bs [] := rfl
theorem intent_Write_f (q s : Int) (t : List UInt8) (hq0 : -9223372036854775808 ≤ q) (hq1 : q < 9223372036854775808) (hs0 : -9223372036854775808 ≤ s) (hs1 : s < 9223372036854775808) (ht : t.length ≤ 281474976710656) :
    intent_Write.f q s (bs t) = some (bs (writeL q s t).1, (writeL q s t).2) := by
  unfold intent_Write.f
  rw [wire_Put_f 10 (by decide) q 7 hq0 hq1, wire_Put_f 10 (by decide) s 2 hs0 hs1, wire_Text_f 10 (by decide) t ht]
  simp only [Option.bind_some]
  have l1 := putL_len q 7
  have l2 := putL_len s 2
  have l3 : (textL t).1.length ≤ 65537 := by
    unfold textL; split
    · simp [lowB_length]; omega
    · simp
  rw [if_pos (by simp only [bs_size]; omega)]
  unfold intW writeL
  by_cases e1 : (putL q 7).2 = 0
  · by_cases e2 : (putL s 2).2 = 0
    · by_cases e3 : (textL t).2 = 0
      · simp only [if_pos e1, if_pos e2, if_pos e3, bs_append]
      · simp only [if_pos e1, if_pos e2, if_neg e3, lit_nil]
    · simp only [if_pos e1, if_neg e2, lit_nil]
  · simp only [if_neg e1, lit_nil]
theorem hasPrefix_f (l m : List UInt8) : stringslite_HasPrefix.f (bs l) (bs m) = some (l.take m.length == m) := by
  unfold stringslite_HasPrefix.f
  rw [bs_size, bs_size]
  by_cases h : (l.length : Int) ≥ (m.length : Int)
  · rw [if_pos h, if_pos (by omega), if_pos (by omega), Int.toNat_natCast, bs_extract_zero, bs_toList, bs_toList]
  · rw [if_neg h]
    have : (l.take m.length == m) = false := by
      simp only [beq_eq_false_iff_ne, ne_eq]
      intro hc
      have := congrArg List.length hc
      rw [List.length_take] at this; omega
    rw [this]
theorem cutPrefix_f (l m : List UInt8) : strings_CutPrefix.f (bs l) (bs m) = some (if l.take m.length = m then (bs (l.drop m.length), true) else (bs l, false)) := by
  unfold strings_CutPrefix.f stringslite_CutPrefix.f
  rw [hasPrefix_f, Option.bind_some]
  by_cases h : l.take m.length = m
  · have hl : m.length ≤ l.length := by
      have := congrArg List.length h
      rw [List.length_take] at this; omega
    rw [if_pos (by simpa using h), if_pos h, bs_size, bs_size, if_pos (by omega), if_pos (by omega), Int.toNat_natCast, bs_extract_end]; rfl
  · rw [if_neg (by simpa using h), if_neg h]; rfl
theorem mx3 {a b c : Int} (ha : a = 0 ∨ a = 4) (hb : b = 0 ∨ b = 4) (hc : c = 0 ∨ c = 4) : mx (mx a b) c = 0 ↔ a = 0 ∧ b = 0 ∧ c = 0 := by
  unfold mx
  rcases ha with rfl | rfl <;> rcases hb with rfl | rfl <;> rcases hc with rfl | rfl <;> decide
theorem cut_len (l : List UInt8) (s : Int) : (cutL l s).2.1.length ≤ l.length := by
  unfold cutL; split
  · simp
  · split
    · simp
    · rw [List.length_drop]; omega
theorem intent_Read_f (l : List UInt8) (h : l.length ≤ 281474976710656) : intent_Read.f (bs l) = some ((readL l).1, (readL l).2.1, bs (readL l).2.2.1, (readL l).2.2.2) := by
  unfold intent_Read.f readL
  by_cases hp : l.take 3 = [73, 78, 84]
  · have hcp : strings_CutPrefix.f (bs l) (bs [73, 78, 84]) = some (bs (l.drop 3), true) := by rw [cutPrefix_f]; exact congrArg some (if_pos hp)
    rw [lit_INT, hcp, Option.bind_some, if_pos rfl, if_pos hp]
    have hd : (l.drop 3).length ≤ 281474976710656 := by rw [List.length_drop]; omega
    simp only []
    rw [wire_Cut_f _ _ hd, Option.bind_some]
    have hc1 := cut_len (l.drop 3) 7
    simp only []
    rw [wire_Cut_f _ _ (by omega), Option.bind_some]
    have hc2 := cut_len (cutL (l.drop 3) 7).2.1 2
    simp only []
    rw [wire_Take_f _ (by omega), Option.bind_some]
    have e1 : (cutL (l.drop 3) 7).2.2 = 0 ∨ (cutL (l.drop 3) 7).2.2 = 4 := (cutL_errs (l.drop 3) 7 (by decide) (by decide)).imp id (fun hh => by rw [show ((7 : Nat) : Int) = 7 from rfl] at hh; rw [hh])
    generalize cutL (l.drop 3) 7 = c1 at *
    have e2 : (cutL c1.2.1 2).2.2 = 0 ∨ (cutL c1.2.1 2).2.2 = 4 := (cutL_errs c1.2.1 2 (by decide) (by decide)).imp id (fun hh => by rw [show ((2 : Nat) : Int) = 2 from rfl] at hh; rw [hh])
    generalize cutL c1.2.1 2 = c2 at *
    have e3 : (takeL c2.2.1).2.2 = 0 ∨ (takeL c2.2.1).2.2 = 4 := (takeL_err c2.2.1).imp id (fun hh => by rw [hh])
    generalize takeL c2.2.1 = c3 at *
    have hm := mx3 e1 e2 e3
    simp only [bs_toList]
    by_cases hz : c1.2.2 = 0 ∧ c2.2.2 = 0 ∧ c3.2.2 = 0
    · rw [if_pos (hm.2 hz)]
      by_cases hr : c3.2.1 = []
      · rw [if_pos hr, if_pos ⟨hz.1, hz.2.1, hz.2.2, hr⟩]
      · rw [if_neg hr, if_neg (fun hh => hr hh.2.2.2)]; rfl
    · rw [if_neg (fun hh => hz (hm.1 hh)), if_neg (fun hh => hz ⟨hh.1, hh.2.1, hh.2.2.1⟩)]; rfl
  · have hcp : strings_CutPrefix.f (bs l) (bs [73, 78, 84]) = some (bs l, false) := by rw [cutPrefix_f]; exact congrArg some (if_neg hp)
    rw [lit_INT, hcp, Option.bind_some, if_neg Bool.false_ne_true, if_neg hp]; rfl
theorem ref14_Write_f (k : Nat) (hk : 10 ≤ k) (q s : Int) (t : List UInt8) (hq0 : -9223372036854775808 ≤ q) (hq1 : q < 9223372036854775808) (hs0 : -9223372036854775808 ≤ s) (hs1 : s < 9223372036854775808) (ht : t.length ≤ 281474976710656) :
    sheetpileref14_Write.f k q s (bs t) = some (bs (writeL q s t).1, (writeL q s t).2) := by
  unfold sheetpileref14_Write.f
  rw [ref_Put_f k hk q 7 hq0 hq1, ref_Put_f k hk s 2 hs0 hs1, ref_Text_f k hk t ht]
  simp only [Option.bind_some]
  have l1 := putL_len q 7
  have l2 := putL_len s 2
  have l3 : (textL t).1.length ≤ 65537 := by
    unfold textL; split
    · simp [lowB_length]; omega
    · simp
  unfold writeL
  by_cases e1 : (putL q 7).2 = 0
  · by_cases e2 : (putL s 2).2 = 0
    · by_cases e3 : (textL t).2 = 0
      · simp only [if_pos e1, if_pos e2, if_pos e3, lit_INT, bs_append, bs_size, List.length_append, List.length_cons, List.length_nil]
        rw [if_pos (by omega), if_pos (by omega), if_pos (by omega)]
      · simp only [if_pos e1, if_pos e2, if_neg e3, lit_nil]
    · simp only [if_pos e1, if_neg e2, lit_nil]
  · simp only [if_neg e1, lit_nil]
theorem ref14_Read_f (k : Nat) (hk : 11 ≤ k) (l : List UInt8) (h : l.length ≤ 281474976710656) : sheetpileref14_Read.f k (bs l) = some ((readL l).1, (readL l).2.1, bs (readL l).2.2.1, (readL l).2.2.2) := by
  obtain ⟨k, rfl⟩ : ∃ m, k = m + 1 := ⟨k - 1, by omega⟩
  unfold sheetpileref14_Read.f
  rw [bs_size]
  by_cases h14 : (l.length : Int) < 14
  · rw [if_pos h14]
    have hr : readL l = (0, 0, [], 5) := by
      refine (readL_err l).resolve_left fun hz => ?_
      obtain ⟨a, b, t, _, _, _, rfl⟩ := readL_zero hz
      rw [recL_length] at h14; omega
    rw [hr]; simp only [sheetpileref14_Read.j0]; rfl
  · rw [if_neg h14, if_pos (by decide), if_pos (by omega)]
    simp only [sheetpileref14_Read.j0]
    rw [bs_extract_zero, bs_toList, bs_size]
    by_cases hp : l.take 3 = [73, 78, 84]
    · rw [if_neg (by simpa using hp), if_pos (by omega), bs_extract_end]
      have hd : (l.drop 3).length ≤ 281474976710656 := by rw [List.length_drop]; omega
      rw [ref_Cut_f k (by omega) _ 7 hd (by decide) (by decide), Option.bind_some]
      have hc1 := cut_len (l.drop 3) 7
      simp only []
      rw [ref_Cut_f k (by omega) _ 2 (by omega) (by decide) (by decide), Option.bind_some]
      have hc2 := cut_len (cutL (l.drop 3) 7).2.1 2
      simp only []
      rw [ref_Take_f k (by omega) _ (by omega), Option.bind_some]
      have o1 := cutL_ok (l := l.drop 3) (s := 7) (by decide) (by decide) (by rw [List.length_drop]; omega)
      have o2 := cutL_ok (l := (l.drop 3).drop 7) (s := 2) (by decide) (by decide) (by rw [List.length_drop, List.length_drop]; omega)
      rw [show ((7 : Nat) : Int) = 7 from rfl] at o1
      rw [show ((2 : Nat) : Int) = 2 from rfl] at o2
      unfold readL
      rw [if_pos hp]
      simp only [o1, o2, bs_toList, true_and]
      by_cases e3 : (takeL (((l.drop 3).drop 7).drop 2)).2.2 = 0
      · by_cases e4 : (takeL (((l.drop 3).drop 7).drop 2)).2.1 = []
        · rw [if_pos e3, if_pos e4, if_pos ⟨e3, e4⟩]
        · rw [if_pos e3, if_neg e4, if_neg (fun hh => e4 hh.2)]; rfl
      · rw [if_neg e3, if_neg (fun hh => e3 hh.1)]; rfl
    · rw [if_pos (by simpa using hp)]
      unfold readL
      rw [if_neg hp]; rfl
theorem live14 : sheetpilelaw14_live.f = some true := by
  unfold sheetpilelaw14_live.f
  rw [show (⟨#[104, 105]⟩ : ByteArray) = bs [104, 105] from rfl, intent_Write_f 258 3 [104, 105] (by decide) (by decide) (by decide) (by decide) (by decide), Option.bind_some]
  have hw : writeL 258 3 [104, 105] = ([73, 78, 84, 2, 1, 0, 0, 0, 0, 0, 3, 0, 2, 0, 104, 105], 0) := by decide
  simp only [hw]
  rw [intent_Read_f _ (by decide), Option.bind_some, bs_size, if_pos (by decide), show (⟨#[97]⟩ : ByteArray) = bs [97] from rfl, bs_append, intent_Read_f _ (by decide), Option.bind_some,
    show (⟨#[]⟩ : ByteArray) = bs [] from rfl, intent_Write_f 0 65536 [] (by decide) (by decide) (by decide) (by decide) (by decide), Option.bind_some]
  simp only [bs_toList]
  decide
theorem own14 (q s : Int) (t : ByteArray) : sheetpilelaw14_own.f q s t = some (q, s, t) := rfl
theorem told14 (q s : Int) (t : ByteArray) : sheetpilelaw14_told.f q s t = some (q, s, t) := rfl
end Go.Proofs.Ytdkaokjnfkfngaa.Pure
