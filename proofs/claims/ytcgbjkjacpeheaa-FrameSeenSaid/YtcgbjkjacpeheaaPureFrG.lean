/- Few changes; lists that are the same; the reference's Write. -/
import Derived.Test.YtcgbjkjacpeheaaPFrx8
import Derived.Test.YtcgbjkjacpeheaaPFrx6
import Derived.Test.YtcgbjkjacpeheaaPFrx10
import Derived.Test.YtcgbjkjacpeheaaPureFrB
namespace Go.Proofs.Ytcgbjkjacpeheaa.Pure
set_option linter.unusedVariables false
set_option linter.unusedSimpArgs false
open Go.RowKit Go.Proofs.Ytcgbjkjacpeheaa.PFr Go.Proofs.Ytcgbjkjacpeheaa.Given Go.Proofs.Ytcgbjkjacpeheaa.Bs Go.Proofs.Ytcgbjkjacpeheaa.WirePlain Go.Proofs.Ytcgbjkjacpeheaa.KeyPlain Go.Proofs.Ytcgbjkjacpeheaa.RunesPlain Go.Proofs.Ytcgbjkjacpeheaa.CrcPlain Go.Proofs.YtcgbjkjacpeheaaW.PrintWords Go.Proofs.YtcgbjkjacpeheaaW.PrintLast Go.Proofs.YtcgbjkjacpeheaaW.PrintMore
def fewL (l : List S62) : Bool := l.all (fun c => decide (c.f0.size ≤ 300) && decide (c.f1.size ≤ 1200))
theorem few_loop (l : List S62) (hl : l.length ≤ 10000000000000) : ∀ (d k i : Nat), i + d = l.length → sheetpileref19_Few.l0 (k + d + 1) l (i : Int) = some (fewL (l.drop i) && decide (l.length ≤ 80)) := by
  intro d
  induction d with
  | zero =>
    intro k i hi
    rw [List.drop_of_length_le (by omega), sheetpileref19_Few.l0, if_neg (by omega)]
    have : decide ((l.length : Int) ≤ 80) = decide (l.length ≤ 80) := by
      by_cases h : l.length ≤ 80
      · rw [decide_eq_true h, decide_eq_true (by omega)]
      · rw [decide_eq_false h, decide_eq_false (by omega)]
    rw [this]; rfl
  | succ d ih =>
    intro k i hi
    have hlt : i < l.length := by omega
    have hx : wrap64 ((i : Int) + 1) = ((i + 1 : Nat) : Int) := by rw [wrap_id (by omega) (by omega)]; omega
    rw [show k + (d + 1) + 1 = (k + d + 1) + 1 by omega, sheetpileref19_Few.l0, if_pos (by omega), if_pos (by omega), rd_getC l i hlt, hx, ih k (i + 1) (by omega), List.drop_eq_getElem_cons hlt]
    have hc : fewL (l[i] :: l.drop (i + 1)) = ((decide (l[i].f0.size ≤ 300) && decide (l[i].f1.size ≤ 1200)) && fewL (l.drop (i + 1))) := rfl
    rw [hc]
    by_cases h1 : (l[i].f0.size : Int) > 300
    · rw [if_pos h1, decide_eq_false (p := l[i].f0.size ≤ 300) (by omega)]; rfl
    · rw [if_neg h1, decide_eq_true (p := l[i].f0.size ≤ 300) (by omega)]
      by_cases h2 : (l[i].f1.size : Int) > 1200
      · rw [if_pos h2, decide_eq_false (p := l[i].f1.size ≤ 1200) (by omega)]; rfl
      · rw [if_neg h2, decide_eq_true (p := l[i].f1.size ≤ 1200) (by omega)]; rfl
theorem few_f (l : List S62) (hl : l.length ≤ 10000000000000) (k : Nat) (hk : l.length + 1 ≤ k) : sheetpileref19_Few.f k l = some (fewL l && decide (l.length ≤ 80)) := by
  unfold sheetpileref19_Few.f
  have := few_loop l hl l.length (k - l.length - 1) 0 (by omega)
  rw [show k - l.length - 1 + l.length + 1 = k by omega] at this
  exact this
theorem few_sizes {l : List S62} (h : (fewL l && decide (l.length ≤ 80)) = true) : l.length ≤ 80 ∧ ∀ c ∈ l, c.f0.size ≤ 300 ∧ c.f1.size ≤ 1200 := by
  rw [Bool.and_eq_true, decide_eq_true_eq] at h
  refine ⟨h.2, fun c hc => ?_⟩
  have := List.all_eq_true.1 h.1 c hc
  rw [Bool.and_eq_true, decide_eq_true_eq, decide_eq_true_eq] at this
  exact this
theorem sc_ext {a b : S62} (h0 : a.f0.toList = b.f0.toList) (h1 : a.f1.toList = b.f1.toList) (h2 : a.f2 = b.f2) : a = b := by
  have e0 : a.f0 = b.f0 := by rw [bs_of a.f0, bs_of b.f0, ← ByteArray.toList_eq, ← ByteArray.toList_eq, h0]
  have e1 : a.f1 = b.f1 := by rw [bs_of a.f1, bs_of b.f1, ← ByteArray.toList_eq, ← ByteArray.toList_eq, h1]
  cases a; cases b; simp_all
theorem changes_loop (a b : List S62) (hab : a.length = b.length) (ha : a.length ≤ 10000000) (d : Nat) : ∀ (k i : Nat), i + d = a.length → ∃ r, sheetpileref19_Changes.l0 (k + d + 1) a b (i : Int) = some r ∧ (r = true ↔ a.drop i = b.drop i) := by
  induction d with
  | zero =>
    intro k i hi
    refine ⟨true, by rw [sheetpileref19_Changes.l0, if_neg (by omega)], ?_⟩
    rw [List.drop_of_length_le (by omega), List.drop_of_length_le (by omega)]; simp
  | succ d ih =>
    intro k i hi
    have hx : wrap64 ((i : Int) + 1) = ((i + 1 : Nat) : Int) := by rw [wrap_id (by omega) (by omega)]; omega
    have h1 : i < a.length := by omega
    have h2 : i < b.length := by omega
    rw [show k + (d + 1) + 1 = (k + d + 1) + 1 by omega, sheetpileref19_Changes.l0, if_pos (by omega), if_pos (by omega), if_pos (by omega), rd_getC a i h1, rd_getC b i h2, hx]
    have ea := List.drop_eq_getElem_cons h1
    have eb := List.drop_eq_getElem_cons h2
    by_cases he : a[i] = b[i]
    · rw [he, if_neg (by simp)]
      obtain ⟨r, hr1, hr2⟩ := ih k (i + 1) (by omega)
      exact ⟨r, hr1, ⟨fun h => by rw [ea, eb, he, hr2.1 h], fun h => by rw [ea, eb] at h; exact hr2.2 (List.cons.inj h).2⟩⟩
    · refine ⟨false, ?_, ⟨fun h => (by cases h), fun h => by rw [ea, eb] at h; exact absurd (List.cons.inj h).1 he⟩⟩
      rw [if_pos ?_]
      by_cases c0 : a[i].f0.toList = b[i].f0.toList
      · by_cases c1 : a[i].f1.toList = b[i].f1.toList
        · have c2 : ¬ a[i].f2 = b[i].f2 := fun c2 => he (sc_ext c0 c1 c2)
          simp [c2]
        · simp [c1]
      · simp [c0]
theorem changes_f (a b : List S62) (ha : a.length ≤ 10000000) (k : Nat) (hk : a.length + 1 ≤ k) : ∃ r, sheetpileref19_Changes.f k a b = some r ∧ (r = true ↔ a = b) := by
  unfold sheetpileref19_Changes.f
  by_cases hab : a.length = b.length
  · rw [if_pos (by omega)]
    have := changes_loop a b hab ha a.length (k - a.length - 1) 0 (by omega)
    rw [show k - a.length - 1 + a.length + 1 = k by omega] at this
    exact this
  · rw [if_neg (by omega)]
    exact ⟨false, rfl, ⟨fun h => (by cases h), fun h => absurd (congrArg List.length h) hab⟩⟩
theorem known_f (k : Nat) (hk : 10 ≤ k) (a : ByteArray) (h : a.size ≤ 65535) : sheetpileref07_Known.f k a = some (bs (txL a)) := by
  unfold sheetpileref07_Known.f
  have := ref_Text_f k hk a.data.toList (by rw [data_length]; omega)
  rw [← bs_of, textL_ok (by rw [data_length]; omega)] at this
  rw [this, Option.bind_some]
  simp only [data_length]
  rfl
theorem sure_f (k : Nat) (hk : 10 ≤ k) (n : Nat) (h : n < 4294967296) : sheetpileref07_Sure.f k (n : Int) 4 = some (bs (lowB 4 n)) := by
  unfold sheetpileref07_Sure.f
  have hp : putL (n : Int) 4 = (lowB 4 n, 0) := putL_ok (s := 4) (by decide) (by decide) (by rw [pow4]; omega)
  rw [ref_Put_f k hk _ 4 (by omega) (by omega), hp]; rfl
theorem change_f (k : Nat) (hk : 10 ≤ k) (c : S62) (h0 : c.f0.size ≤ 65535) (h1 : c.f1.size ≤ 65535) : sheetpileref19_change.f k c.f0 c.f1 c.f2 = some (bs (chB txL c)) := by
  unfold sheetpileref19_change.f chB
  have l0 := txL_len c.f0
  have l1 := txL_len c.f1
  rw [known_f k hk c.f0 h0, known_f k hk c.f1 h1]
  by_cases h : c.f2 = true
  · rw [if_pos h, if_pos h, Option.bind_some, if_pos (by rw [bs_size]; omega), show (⟨#[1]⟩ : ByteArray) = bs [1] from rfl, bs_append]; rfl
  · rw [if_neg h, if_neg h, Option.bind_some, if_pos (by rw [bs_size]; omega), Option.bind_some, show (⟨#[0]⟩ : ByteArray) = bs [0] from rfl, bs_append, if_pos (by rw [bs_size, bs_size, List.length_append]; simp; omega), bs_append]
    simp
theorem rwrite_loop (l : List S62) (hs : ∀ c ∈ l, c.f0.size ≤ 65535 ∧ c.f1.size ≤ 65535) (hl : l.length ≤ 64) (seq : Nat) (hq : seq < 4294967296) : ∀ (d k i : Nat), i + d = l.length → 10 * ((bodyL l).length + 9) + 20 ≤ k →
    sheetpileref19_Write.l0 (k + d + 1) (bs (bodyL (l.take i))) (i : Int) (seq : Int) l = some (bs (frameL seq l), 0) := by
  have hb := bodyL_len l hs
  intro d
  induction d with
  | zero =>
    intro k i hi hk
    rw [sheetpileref19_Write.l0, if_neg (by omega), List.take_of_length_le (by omega), sure_f k (by omega) seq hq, Option.bind_some, if_pos (by rw [bs_size, lowB_length]; decide), bs_size, sure_f k (by omega) _ (by omega), Option.bind_some]
    rw [show (⟨#[71]⟩ : ByteArray) = bs [71] from rfl, bs_append, bs_append, bs_append, if_pos (by simp only [bs_size, List.length_append, lowB_length]; simp), if_pos (by simp only [bs_size, List.length_append, lowB_length]; simp; omega)]
    have hh : [71] ++ lowB 4 seq ++ lowB 4 (bodyL l).length ++ bodyL l = headL seq l := by unfold headL; simp
    have hhl : (headL seq l).length = (bodyL l).length + 9 := by unfold headL; simp only [List.length_cons, List.length_append, lowB_length]; omega
    rw [hh, PureC.ref_Sum_f _ (by rw [bs_size]; omega) k (by rw [bs_size]; omega), Option.bind_some, bs_data]
    have hm := more_lt (s := 0) (by decide) (headL seq l)
    rw [wrap_id (by omega) (by omega), sure_f k (by omega) _ hm, Option.bind_some, if_pos (by rw [bs_size, bs_size, lowB_length]; omega), bs_append]
    rfl
  | succ d ih =>
    intro k i hi hk
    have hlt : i < l.length := by omega
    have hx : wrap64 ((i : Int) + 1) = ((i + 1 : Nat) : Int) := by rw [wrap_id (by omega) (by omega)]; omega
    have hc := hs l[i] (List.getElem_mem hlt)
    have ht : bodyL (l.take (i + 1)) = bodyL (l.take i) ++ chB txL l[i] := by
      unfold bodyL chsB
      rw [List.take_succ_eq_append_getElem hlt, List.flatMap_append]; simp
    have hbt : (bodyL (l.take i)).length ≤ 131081 * 64 := by
      have := bodyL_len (l.take i) (fun c hc => hs c (List.mem_of_mem_take hc))
      rw [List.length_take] at this; omega
    have hcl : (chB txL l[i]).length ≤ 131081 := by
      unfold chB; split
      · simp only [List.length_cons, txL_len]; omega
      · simp only [List.length_cons, List.length_append, txL_len]; omega
    rw [show k + (d + 1) + 1 = (k + d + 1) + 1 by omega, sheetpileref19_Write.l0, if_pos (by omega), if_pos (by omega), rd_getC l i hlt, change_f _ (by omega) l[i] hc.1 hc.2, Option.bind_some, if_pos (by rw [bs_size, bs_size]; omega), bs_append, ← ht, hx]
    exact ih k (i + 1) (by omega) hk
theorem ref19_Write_f (seq : Int) (l : List S62) (h0 : -9223372036854775808 ≤ seq) (h1 : seq < 9223372036854775808) (hs : ∀ c ∈ l, c.f0.size ≤ 65535 ∧ c.f1.size ≤ 65535) (k : Nat) (hk : 90000000 ≤ k) :
    sheetpileref19_Write.f k seq l = some (bs (writeL seq l).1, (writeL seq l).2) := by
  obtain ⟨k, rfl⟩ : ∃ m, k = m + 1 := ⟨k - 1, by omega⟩
  unfold sheetpileref19_Write.f writeL
  rw [ref19_Check_f 65535 (by decide) (k + 1) (by omega) l (fun c hc => (hs c hc).1), Option.bind_some]
  by_cases hc : checkL l = 0
  · rw [if_pos hc, if_pos hc]
    have hlen := checkL_len hc
    have hb := bodyL_len l hs
    by_cases hq : 0 ≤ seq ∧ seq < 4294967296
    · obtain ⟨n, rfl⟩ := Int.eq_ofNat_of_zero_le hq.1
      rw [if_neg (by omega), if_pos hq, sheetpileref19_Write.j0, decide_eq_false (by omega), if_neg (by decide)]
      have := rwrite_loop l hs hlen n (by omega) l.length (k - l.length - 1) 0 (by omega) (by omega)
      rw [show k - l.length - 1 + l.length + 1 = k by omega, List.take_zero] at this
      exact this
    · rw [if_neg hq]
      by_cases hn : seq < 0
      · rw [if_pos hn, sheetpileref19_Write.j0, if_pos rfl]; rfl
      · rw [if_neg hn, sheetpileref19_Write.j0, decide_eq_true (by omega), if_pos rfl]; rfl
  · rw [if_neg hc, if_neg hc]; rfl
end Go.Proofs.Ytcgbjkjacpeheaa.Pure
