/- Groups one behind the other: what scan.All and scan.Write answer, and the reference's. -/
import Derived.Test.YtcgbjkjacpeheaaPureFrB
import Derived.Test.YtcgbjkjacpeheaaScan20
import Derived.Test.YtcgbjkjacpeheaaScanWrite
import Derived.Test.YtcgbjkjacpeheaaPFrx8
import Derived.Test.YtcgbjkjacpeheaaPFrx6
import Derived.Test.YtcgbjkjacpeheaaPFrx10
import Derived.Test.YtcgbjkjacpeheaaPFrx18
import Derived.Test.YtcgbjkjacpeheaaPFrx19
namespace Go.Proofs.Ytcgbjkjacpeheaa.Pure
set_option linter.unusedVariables false
set_option linter.unusedSimpArgs false
open Go.RowKit Go.Proofs.Ytcgbjkjacpeheaa.PFr Go.Proofs.Ytcgbjkjacpeheaa.Given Go.Proofs.Ytcgbjkjacpeheaa.Bs Go.Proofs.Ytcgbjkjacpeheaa.WirePlain Go.Proofs.Ytcgbjkjacpeheaa.KeyPlain Go.Proofs.Ytcgbjkjacpeheaa.RunesPlain Go.Proofs.Ytcgbjkjacpeheaa.CrcPlain Go.Proofs.YtcgbjkjacpeheaaW.PrintWords Go.Proofs.YtcgbjkjacpeheaaW.PrintLast Go.Proofs.YtcgbjkjacpeheaaW.PrintMore
def fewL (l : List S62) : Bool := l.all (fun c => decide (c.f0.size ≤ 300) && decide (c.f1.size ≤ 1200))
theorem few_loop (l : List S62) (hl : l.length ≤ 10000000000000) : ∀ (d k i : Nat), i + d = l.length → sheetpileref19_Few.l0 (k + d + 1) l (i : Int) = some (fewL (l.drop i) && decide (l.length ≤ 80)) := by
  intro d
  induction d with
  | zero =>
    intro k i hi
    rw [List.drop_of_length_le (by omega), sheetpileref19_Few.l0, if_neg (by omega)]
    have : decide ((l.length : Int) ≤ 80) = decide (l.length ≤ 80) := by
      by_cases h : l.length ≤ 80
      · rw [decide_eq_true h, decide_eq_true (by omega)]
      · rw [decide_eq_false h, decide_eq_false (by omega)]
    rw [this]; rfl
  | succ d ih =>
    intro k i hi
    have hlt : i < l.length := by omega
    have hx : wrap64 ((i : Int) + 1) = ((i + 1 : Nat) : Int) := by rw [wrap_id (by omega) (by omega)]; omega
    rw [show k + (d + 1) + 1 = (k + d + 1) + 1 by omega, sheetpileref19_Few.l0, if_pos (by omega), if_pos (by omega), rd_getC l i hlt, hx, ih k (i + 1) (by omega), List.drop_eq_getElem_cons hlt]
    have hc : fewL (l[i] :: l.drop (i + 1)) = ((decide (l[i].f0.size ≤ 300) && decide (l[i].f1.size ≤ 1200)) && fewL (l.drop (i + 1))) := rfl
    rw [hc]
    by_cases h1 : (l[i].f0.size : Int) > 300
    · rw [if_pos h1, decide_eq_false (p := l[i].f0.size ≤ 300) (by omega)]; rfl
    · rw [if_neg h1, decide_eq_true (p := l[i].f0.size ≤ 300) (by omega)]
      by_cases h2 : (l[i].f1.size : Int) > 1200
      · rw [if_pos h2, decide_eq_false (p := l[i].f1.size ≤ 1200) (by omega)]; rfl
      · rw [if_neg h2, decide_eq_true (p := l[i].f1.size ≤ 1200) (by omega)]; rfl
theorem few_f (l : List S62) (hl : l.length ≤ 10000000000000) (k : Nat) (hk : l.length + 1 ≤ k) : sheetpileref19_Few.f k l = some (fewL l && decide (l.length ≤ 80)) := by
  unfold sheetpileref19_Few.f
  have := few_loop l hl l.length (k - l.length - 1) 0 (by omega)
  rw [show k - l.length - 1 + l.length + 1 = k by omega] at this
  exact this
theorem few_sizes {l : List S62} (h : (fewL l && decide (l.length ≤ 80)) = true) : l.length ≤ 80 ∧ ∀ c ∈ l, c.f0.size ≤ 300 ∧ c.f1.size ≤ 1200 := by
  rw [Bool.and_eq_true, decide_eq_true_eq] at h
  refine ⟨h.2, fun c hc => ?_⟩
  have := List.all_eq_true.1 h.1 c hc
  rw [Bool.and_eq_true, decide_eq_true_eq, decide_eq_true_eq] at this
  exact this
theorem sc_ext {a b : S62} (h0 : a.f0.toList = b.f0.toList) (h1 : a.f1.toList = b.f1.toList) (h2 : a.f2 = b.f2) : a = b := by
  have e0 : a.f0 = b.f0 := by rw [bs_of a.f0, bs_of b.f0, ← ByteArray.toList_eq, ← ByteArray.toList_eq, h0]
  have e1 : a.f1 = b.f1 := by rw [bs_of a.f1, bs_of b.f1, ← ByteArray.toList_eq, ← ByteArray.toList_eq, h1]
  cases a; cases b; simp_all
theorem changes_loop (a b : List S62) (hab : a.length = b.length) (ha : a.length ≤ 10000000) (d : Nat) : ∀ (k i : Nat), i + d = a.length → ∃ r, sheetpileref19_Changes.l0 (k + d + 1) a b (i : Int) = some r ∧ (r = true ↔ a.drop i = b.drop i) := by
  induction d with
  | zero =>
    intro k i hi
    refine ⟨true, by rw [sheetpileref19_Changes.l0, if_neg (by omega)], ?_⟩
    rw [List.drop_of_length_le (by omega), List.drop_of_length_le (by omega)]; simp
  | succ d ih =>
    intro k i hi
    have hx : wrap64 ((i : Int) + 1) = ((i + 1 : Nat) : Int) := by rw [wrap_id (by omega) (by omega)]; omega
    have h1 : i < a.length := by omega
    have h2 : i < b.length := by omega
    rw [show k + (d + 1) + 1 = (k + d + 1) + 1 by omega, sheetpileref19_Changes.l0, if_pos (by omega), if_pos (by omega), if_pos (by omega), rd_getC a i h1, rd_getC b i h2, hx]
    have ea := List.drop_eq_getElem_cons h1
    have eb := List.drop_eq_getElem_cons h2
    by_cases he : a[i] = b[i]
    · rw [he, if_neg (by simp)]
      obtain ⟨r, hr1, hr2⟩ := ih k (i + 1) (by omega)
      exact ⟨r, hr1, ⟨fun h => by rw [ea, eb, he, hr2.1 h], fun h => by rw [ea, eb] at h; exact hr2.2 (List.cons.inj h).2⟩⟩
    · refine ⟨false, ?_, ⟨fun h => (by cases h), fun h => by rw [ea, eb] at h; exact absurd (List.cons.inj h).1 he⟩⟩
      rw [if_pos ?_]
      by_cases c0 : a[i].f0.toList = b[i].f0.toList
      · by_cases c1 : a[i].f1.toList = b[i].f1.toList
        · have c2 : ¬ a[i].f2 = b[i].f2 := fun c2 => he (sc_ext c0 c1 c2)
          simp [c2]
        · simp [c1]
      · simp [c0]
theorem changes_f (a b : List S62) (ha : a.length ≤ 10000000) (k : Nat) (hk : a.length + 1 ≤ k) : ∃ r, sheetpileref19_Changes.f k a b = some r ∧ (r = true ↔ a = b) := by
  unfold sheetpileref19_Changes.f
  by_cases hab : a.length = b.length
  · rw [if_pos (by omega)]
    have := changes_loop a b hab ha a.length (k - a.length - 1) 0 (by omega)
    rw [show k - a.length - 1 + a.length + 1 = k by omega] at this
    exact this
  · rw [if_neg (by omega)]
    exact ⟨false, rfl, ⟨fun h => (by cases h), fun h => absurd (congrArg List.length h) hab⟩⟩
theorem known_f (k : Nat) (hk : 10 ≤ k) (a : ByteArray) (h : a.size ≤ 65535) : sheetpileref07_Known.f k a = some (bs (txL a)) := by
  unfold sheetpileref07_Known.f
  have := ref_Text_f k hk a.data.toList (by rw [data_length]; omega)
  rw [← bs_of, textL_ok (by rw [data_length]; omega)] at this
  rw [this, Option.bind_some]
  simp only [data_length]
  rfl
theorem sure_f (k : Nat) (hk : 10 ≤ k) (n : Nat) (h : n < 4294967296) : sheetpileref07_Sure.f k (n : Int) 4 = some (bs (lowB 4 n)) := by
  unfold sheetpileref07_Sure.f
  have hp : putL (n : Int) 4 = (lowB 4 n, 0) := putL_ok (s := 4) (by decide) (by decide) (by rw [pow4]; omega)
  rw [ref_Put_f k hk _ 4 (by omega) (by omega), hp]; rfl
theorem change_f (k : Nat) (hk : 10 ≤ k) (c : S62) (h0 : c.f0.size ≤ 65535) (h1 : c.f1.size ≤ 65535) : sheetpileref19_change.f k c.f0 c.f1 c.f2 = some (bs (chB txL c)) := by
  unfold sheetpileref19_change.f chB
  have l0 := txL_len c.f0
  have l1 := txL_len c.f1
  rw [known_f k hk c.f0 h0, known_f k hk c.f1 h1]
  by_cases h : c.f2 = true
  · rw [if_pos h, if_pos h, Option.bind_some, if_pos (by rw [bs_size]; omega), show (⟨#[1]⟩ : ByteArray) = bs [1] from rfl, bs_append]; rfl
  · rw [if_neg h, if_neg h, Option.bind_some, if_pos (by rw [bs_size]; omega), Option.bind_some, show (⟨#[0]⟩ : ByteArray) = bs [0] from rfl, bs_append, if_pos (by rw [bs_size, bs_size, List.length_append]; simp; omega), bs_append]
    simp
theorem rwrite_loop (l : List S62) (hs : ∀ c ∈ l, c.f0.size ≤ 65535 ∧ c.f1.size ≤ 65535) (hl : l.length ≤ 64) (seq : Nat) (hq : seq < 4294967296) : ∀ (d k i : Nat), i + d = l.length → 10 * ((bodyL l).length + 9) + 20 ≤ k →
    sheetpileref19_Write.l0 (k + d + 1) (bs (bodyL (l.take i))) (i : Int) (seq : Int) l = some (bs (frameL seq l), 0) := by
  have hb := bodyL_len l hs
  intro d
  induction d with
  | zero =>
    intro k i hi hk
    rw [sheetpileref19_Write.l0, if_neg (by omega), List.take_of_length_le (by omega), sure_f k (by omega) seq hq, Option.bind_some, if_pos (by rw [bs_size, lowB_length]; decide), bs_size, sure_f k (by omega) _ (by omega), Option.bind_some]
    rw [show (⟨#[71]⟩ : ByteArray) = bs [71] from rfl, bs_append, bs_append, bs_append, if_pos (by simp only [bs_size, List.length_append, lowB_length]; simp), if_pos (by simp only [bs_size, List.length_append, lowB_length]; simp; omega)]
    have hh : [71] ++ lowB 4 seq ++ lowB 4 (bodyL l).length ++ bodyL l = headL seq l := by unfold headL; simp
    have hhl : (headL seq l).length = (bodyL l).length + 9 := by unfold headL; simp only [List.length_cons, List.length_append, lowB_length]; omega
    rw [hh, PureC.ref_Sum_f _ (by rw [bs_size]; omega) k (by rw [bs_size]; omega), Option.bind_some, bs_data]
    have hm := more_lt (s := 0) (by decide) (headL seq l)
    rw [wrap_id (by omega) (by omega), sure_f k (by omega) _ hm, Option.bind_some, if_pos (by rw [bs_size, bs_size, lowB_length]; omega), bs_append]
    rfl
  | succ d ih =>
    intro k i hi hk
    have hlt : i < l.length := by omega
    have hx : wrap64 ((i : Int) + 1) = ((i + 1 : Nat) : Int) := by rw [wrap_id (by omega) (by omega)]; omega
    have hc := hs l[i] (List.getElem_mem hlt)
    have ht : bodyL (l.take (i + 1)) = bodyL (l.take i) ++ chB txL l[i] := by
      unfold bodyL chsB
      rw [List.take_succ_eq_append_getElem hlt, List.flatMap_append]; simp
    have hbt : (bodyL (l.take i)).length ≤ 131081 * 64 := by
      have := bodyL_len (l.take i) (fun c hc => hs c (List.mem_of_mem_take hc))
      rw [List.length_take] at this; omega
    have hcl : (chB txL l[i]).length ≤ 131081 := by
      unfold chB; split
      · simp only [List.length_cons, txL_len]; omega
      · simp only [List.length_cons, List.length_append, txL_len]; omega
    rw [show k + (d + 1) + 1 = (k + d + 1) + 1 by omega, sheetpileref19_Write.l0, if_pos (by omega), if_pos (by omega), rd_getC l i hlt, change_f _ (by omega) l[i] hc.1 hc.2, Option.bind_some, if_pos (by rw [bs_size, bs_size]; omega), bs_append, ← ht, hx]
    exact ih k (i + 1) (by omega) hk
theorem ref19_Write_f (seq : Int) (l : List S62) (h0 : -9223372036854775808 ≤ seq) (h1 : seq < 9223372036854775808) (hs : ∀ c ∈ l, c.f0.size ≤ 65535 ∧ c.f1.size ≤ 65535) (k : Nat) (hk : 90000000 ≤ k) :
    sheetpileref19_Write.f k seq l = some (bs (writeL seq l).1, (writeL seq l).2) := by
  obtain ⟨k, rfl⟩ : ∃ m, k = m + 1 := ⟨k - 1, by omega⟩
  unfold sheetpileref19_Write.f writeL
  rw [ref19_Check_f 65535 (by decide) (k + 1) (by omega) l (fun c hc => (hs c hc).1), Option.bind_some]
  by_cases hc : checkL l = 0
  · rw [if_pos hc, if_pos hc]
    have hlen := checkL_len hc
    have hb := bodyL_len l hs
    by_cases hq : 0 ≤ seq ∧ seq < 4294967296
    · obtain ⟨n, rfl⟩ := Int.eq_ofNat_of_zero_le hq.1
      rw [if_neg (by omega), if_pos hq, sheetpileref19_Write.j0, decide_eq_false (by omega), if_neg (by decide)]
      have := rwrite_loop l hs hlen n (by omega) l.length (k - l.length - 1) 0 (by omega) (by omega)
      rw [show k - l.length - 1 + l.length + 1 = k by omega, List.take_zero] at this
      exact this
    · rw [if_neg hq]
      by_cases hn : seq < 0
      · rw [if_pos hn, sheetpileref19_Write.j0, if_pos rfl]; rfl
      · rw [if_neg hn, sheetpileref19_Write.j0, decide_eq_true (by omega), if_pos rfl]; rfl
  · rw [if_neg hc, if_neg hc]; rfl
end Go.Proofs.Ytcgbjkjacpeheaa.Pure
namespace Go.Proofs.Ytcgbjkjacpeheaa.Pure
set_option linter.unusedVariables false
set_option linter.unusedSimpArgs false
open Go.RowKit Go.Proofs.Ytcgbjkjacpeheaa.PFr Go.Proofs.Ytcgbjkjacpeheaa.Given Go.Proofs.Ytcgbjkjacpeheaa.Bs Go.Proofs.Ytcgbjkjacpeheaa.WirePlain Go.Proofs.Ytcgbjkjacpeheaa.KeyPlain Go.Proofs.Ytcgbjkjacpeheaa.RunesPlain Go.Proofs.Ytcgbjkjacpeheaa.CrcPlain Go.Proofs.YtcgbjkjacpeheaaW.PrintWords Go.Proofs.YtcgbjkjacpeheaaW.PrintLast Go.Proofs.YtcgbjkjacpeheaaW.PrintMore
/-- The groups of bytes behind acc, and what is left. -/
def scanL : Nat → List UInt8 → List S30 → List S30 × List UInt8
  | 0, l, acc => (acc, l)
  | n + 1, l, acc => if (readF l).2.2.2 = 0 then (if brk acc (readF l).1 = true then (acc, l) else scanL n (readF l).2.2.1 (acc ++ [⟨(readF l).1, (readF l).2.1⟩])) else (acc, l)
theorem left_lt {l : List UInt8} (h : (readF l).2.2.2 = 0) : (readF l).2.2.1.length < l.length := by
  obtain ⟨sq, _, _, _, _, hl⟩ := readF_back (l := l) (q := (readF l).1) (cs := (readF l).2.1) (left := (readF l).2.2.1) (by rw [← h])
  have := congrArg List.length hl
  rw [List.length_append, frameL_length] at this
  omega
theorem allF_f (K : Nat) (hK : 141 ≤ K) : ∀ (n : Nat) (l : List UInt8) (acc : List S30), l.length < n → l.length ≤ 7000000 → allF K n (bs l) acc = some ((scanL n l acc).1, bs (scanL n l acc).2)
  | 0, l, acc, h, _ => by omega
  | n + 1, l, acc, h, hl => by
    rw [allF, frame_Read_f K hK l hl, Option.bind_some]
    show (if (readF l).2.2.2 = 0 then (if brk acc (readF l).1 = true then some (acc, bs l) else allF K n (bs (readF l).2.2.1) (acc ++ [⟨(readF l).1, (readF l).2.1⟩])) else some (acc, bs l)) = _
    rw [scanL]
    by_cases h0 : (readF l).2.2.2 = 0
    · rw [if_pos h0, if_pos h0]
      by_cases hb : brk acc (readF l).1 = true
      · rw [if_pos hb, if_pos hb]
      · rw [if_neg hb, if_neg hb]
        have := left_lt h0
        exact allF_f K hK n _ _ (by omega) (by omega)
    · rw [if_neg h0, if_neg h0]
def Good (g : S30) : Prop := 0 ≤ g.f0 ∧ g.f0 < 4294967296 ∧ checkL g.f1 = 0 ∧ NormL g.f1
def framesL : List S30 → List UInt8
  | [] => []
  | g :: r => frameL g.f0.toNat g.f1 ++ framesL r
def ChainL : List S30 → List S30 → Prop
  | _, [] => True
  | acc, g :: r => brk acc g.f0 = false ∧ ChainL (acc ++ [g]) r
def StopL (acc : List S30) (l : List UInt8) : Prop := (readF l).2.2.2 = 0 → brk acc (readF l).1 = true
theorem scanL_spec : ∀ (n : Nat) (l : List UInt8) (acc : List S30), l.length < n →
    ∃ new, (scanL n l acc).1 = acc ++ new ∧ l = framesL new ++ (scanL n l acc).2 ∧ ChainL acc new ∧ (∀ g ∈ new, Good g) ∧ StopL (acc ++ new) (scanL n l acc).2
  | 0, l, acc, h => by omega
  | n + 1, l, acc, h => by
    obtain ⟨q, cs, left, e, hr⟩ : ∃ q cs left e, readF l = (q, cs, left, e) := ⟨_, _, _, _, rfl⟩
    have hlt := fun h0 : e = 0 => left_lt (l := l) (by rw [hr]; exact h0)
    rw [hr] at hlt
    rw [scanL, hr]
    dsimp only at hlt ⊢
    by_cases h0 : e = 0
    · rw [if_pos h0]
      by_cases hb : brk acc q = true
      · rw [if_pos hb]
        exact ⟨[], by simp, rfl, trivial, by simp, fun _ => by rw [List.append_nil, hr]; exact hb⟩
      · rw [if_neg hb]
        rw [h0] at hr
        obtain ⟨sq, hsq, hq, hc, hn, hl⟩ := readF_back hr
        obtain ⟨new, h1, h2, h3, h4, h5⟩ := scanL_spec n left (acc ++ [⟨q, cs⟩]) (by have := hlt h0; omega)
        refine ⟨⟨q, cs⟩ :: new, by rw [h1, List.append_assoc]; rfl, ?_, ⟨by simpa using hb, h3⟩, ?_, by rw [List.append_assoc] at h5; exact h5⟩
        · show l = (frameL q.toNat cs ++ framesL new) ++ _
          rw [List.append_assoc, ← h2, hl, hsq, Int.toNat_natCast]
        · intro g hg
          rcases List.mem_cons.1 hg with rfl | hg
          · exact ⟨by show 0 ≤ q; omega, by show q < 4294967296; omega, hc, hn⟩
          · exact h4 g hg
    · rw [if_neg h0]
      exact ⟨[], by simp, rfl, trivial, by simp, fun h => absurd (by rw [hr] at h; exact h) h0⟩
theorem readF_good {g : S30} (hg : Good g) (rest : List UInt8) : readF (frameL g.f0.toNat g.f1 ++ rest) = (g.f0, g.f1, rest, 0) := by
  obtain ⟨h0, h1, h2, h3⟩ := hg
  rw [readF_frame g.f0.toNat g.f1 rest (by omega) h2 h3, Int.toNat_of_nonneg h0]
theorem scanL_run : ∀ (new : List S30) (n : Nat) (acc : List S30) (rest : List UInt8), (framesL new ++ rest).length < n → (∀ g ∈ new, Good g) → ChainL acc new → StopL (acc ++ new) rest →
    scanL n (framesL new ++ rest) acc = (acc ++ new, rest)
  | _, 0, _, _, h, _, _, _ => by omega
  | [], n + 1, acc, rest, h, hg, hc, hs => by
    rw [scanL]
    show (if (readF rest).2.2.2 = 0 then (if brk acc (readF rest).1 = true then (acc, rest) else scanL n (readF rest).2.2.1 (acc ++ [⟨(readF rest).1, (readF rest).2.1⟩])) else (acc, rest)) = _
    rw [List.append_nil] at hs ⊢
    by_cases h0 : (readF rest).2.2.2 = 0
    · rw [if_pos h0, if_pos (hs h0)]
    · rw [if_neg h0]
  | g :: r, n + 1, acc, rest, h, hg, hc, hs => by
    have hr : readF (framesL (g :: r) ++ rest) = (g.f0, g.f1, framesL r ++ rest, 0) := by
      show readF ((frameL g.f0.toNat g.f1 ++ framesL r) ++ rest) = _
      rw [List.append_assoc, readF_good (hg g List.mem_cons_self)]
    have hlen : (framesL r ++ rest).length < n := by
      have : (framesL (g :: r) ++ rest).length = (frameL g.f0.toNat g.f1).length + (framesL r ++ rest).length := by
        show ((frameL g.f0.toNat g.f1 ++ framesL r) ++ rest).length = _
        simp only [List.length_append]; omega
      rw [frameL_length] at this; omega
    rw [scanL, hr]
    dsimp only
    rw [if_pos rfl, if_neg (by rw [hc.1]; simp), scanL_run r n (acc ++ [g]) rest hlen (fun x hx => hg x (List.mem_cons_of_mem _ hx)) hc.2 (by rw [List.append_assoc]; exact hs), List.append_assoc]
    rfl
theorem all_f (l : List UInt8) (h : l.length ≤ 7000000) : scan_All.f (bs l) = some ((scanL (l.length + 2) l []).1, (l.length : Int) - ((scanL (l.length + 2) l []).2.length : Int)) := by
  unfold scan_All.f
  rw [bs_size, if_pos h, allF_f 400 (by omega) _ _ _ (by omega) h, Option.bind_some]
  dsimp only
  rw [bs_size]
theorem all_spec (l : List UInt8) (h : l.length ≤ 7000000) : ∃ new rest, scan_All.f (bs l) = some (new, ((framesL new).length : Int)) ∧ scanL (l.length + 2) l [] = (new, rest) ∧ l = framesL new ++ rest ∧ ChainL [] new ∧ (∀ g ∈ new, Good g) ∧ StopL new rest := by
  obtain ⟨new, h1, h2, h3, h4, h5⟩ := scanL_spec (l.length + 2) l [] (by omega)
  rw [List.nil_append] at h1 h5
  refine ⟨new, _, ?_, Prod.ext h1 rfl, h2, h3, h4, h5⟩
  rw [all_f l h, h1]
  have := congrArg List.length h2
  rw [List.length_append] at this
  congr 2
  omega
theorem all_run (new : List S30) (rest : List UInt8) (h : (framesL new ++ rest).length ≤ 7000000) (hg : ∀ g ∈ new, Good g) (hc : ChainL [] new) (hs : StopL new rest) : scan_All.f (bs (framesL new ++ rest)) = some (new, ((framesL new).length : Int)) := by
  rw [all_f _ h, scanL_run new _ [] rest (by omega) hg hc hs]
  dsimp only
  rw [List.length_append]
  simp
theorem stop_nil (acc : List S30) : StopL acc [] := fun h => absurd h (by decide)
/-! ### the reference's -/
def tg (g : S30) : S24 := ⟨g.f0, g.f1⟩
theorem rd_get2 (l : List S24) (i : Nat) (h : i < l.length) : rd_T24 l (i : Int) = l[i] := by
  unfold rd_T24
  rw [Int.toNat_natCast, List.getD_eq_getElem?_getD, List.getElem?_eq_getElem h]; rfl
theorem rd_get3 (l : List S30) (i : Nat) (h : i < l.length) : rd_T30 l (i : Int) = l[i] := by
  unfold rd_T30
  rw [Int.toNat_natCast, List.getD_eq_getElem?_getD, List.getElem?_eq_getElem h]; rfl
theorem ref_all_loop (x0 : ByteArray) : ∀ (n : Nat) (l : List UInt8) (acc : List S30) (k : Nat), l.length < n → acc.length + l.length ≤ 900000 → 10 * l.length + 202 + n ≤ k →
    sheetpileref20_All.l0 k x0 (acc.map tg) (bs l) = some ((scanL n l acc).1.map tg, wrap64 ((x0.size : Int) - ((scanL n l acc).2.length : Int)))
  | 0, l, acc, k, h, _, _ => by omega
  | n + 1, l, acc, k, h, hl, hk => by
    obtain ⟨k, rfl⟩ : ∃ m, k = m + 1 := ⟨k - 1, by omega⟩
    rw [sheetpileref20_All.l0, ref19_Read_f l (by omega) k (by omega), Option.bind_some, scanL]
    have hlt := left_lt (l := l)
    generalize readF l = R at hlt ⊢
    obtain ⟨q, cs, left, e⟩ := R
    dsimp only [outR] at hlt ⊢
    by_cases h0 : e = 0
    · have hlt := hlt h0
      rw [if_pos h0]
      show (if e = 0 then _ else _) = _
      rw [if_pos h0]
      have hnext : brk acc q = false → sheetpileref20_All.l0 k x0 ((acc.map tg) ++ [(⟨q, cs⟩ : S24)]) (bs left) = some ((scanL n left (acc ++ [⟨q, cs⟩])).1.map tg, wrap64 ((x0.size : Int) - ((scanL n left (acc ++ [⟨q, cs⟩])).2.length : Int))) := fun _ => by
        have := ref_all_loop x0 n left (acc ++ [⟨q, cs⟩]) k (by omega) (by rw [List.length_append, List.length_singleton]; omega) (by omega)
        rw [List.map_append] at this
        exact this
      rcases List.eq_nil_or_concat acc with rfl | ⟨la, g, rfl⟩
      · have hb : brk ([] : List S30) q = false := rfl
        rw [if_neg (by simp), if_pos (by simp), hnext hb, if_neg (by rw [hb]; simp)]
      · rw [List.concat_eq_append] at *
        have hb : brk (la ++ [g]) q = (q != wrap64 (g.f0 + 1)) := by unfold brk; rw [List.getLast?_concat]
        have hlen : ((la ++ [g]).map tg).length = la.length + 1 := by simp
        rw [List.length_append, List.length_singleton] at hl
        have hw : wrap64 ((((la ++ [g]).map tg).length : Int) - 1) = (la.length : Int) := by rw [hlen, wrap_id (by omega) (by omega)]; omega
        have hrd : rd_T24 ((la ++ [g]).map tg) (la.length : Int) = tg g := by rw [rd_get2 _ _ (by rw [hlen]; omega)]; simp
        rw [if_pos (by rw [hlen]; omega), hw, if_pos (by omega), if_pos (by rw [hlen]; omega), hrd]
        show (if q = wrap64 (g.f0 + 1) then _ else _) = _
        by_cases hq : q = wrap64 (g.f0 + 1)
        · have hbf : brk (la ++ [g]) q = false := by rw [hb, hq]; simp
          rw [if_pos hq, if_pos (by rw [hlen]; omega), hnext hbf, if_neg (by rw [hbf]; simp)]
        · have hbt : brk (la ++ [g]) q = true := by rw [hb]; simpa using hq
          rw [if_neg hq, if_pos hbt, bs_size]
    · rw [if_neg h0]
      show (if e = 0 then _ else _) = _
      rw [if_neg h0, bs_size]
theorem told_loop (x0 : List S30) (h : x0.length ≤ 1000000) : ∀ (d k i : Nat), i + d = x0.length → d + 1 ≤ k → sheetpilelaw20_told.l0 k x0 ((x0.take i).map tg) (i : Int) = some (x0.map tg)
  | 0, k, i, hi, hk => by
    obtain ⟨k, rfl⟩ : ∃ m, k = m + 1 := ⟨k - 1, by omega⟩
    rw [sheetpilelaw20_told.l0, if_neg (by omega), List.take_of_length_le (by omega)]
  | d + 1, k, i, hi, hk => by
    obtain ⟨k, rfl⟩ : ∃ m, k = m + 1 := ⟨k - 1, by omega⟩
    rw [sheetpilelaw20_told.l0, if_pos (by omega), if_pos (by omega), if_pos (by rw [List.length_map, List.length_take]; omega), rd_get3 x0 i (by omega), wrap_succ i x0.length (by omega) (by omega)]
    have : (x0.take i).map tg ++ [(⟨x0[i].f0, x0[i].f1⟩ : S24)] = (x0.take (i + 1)).map tg := by
      rw [List.take_succ_eq_append_getElem (by omega), List.map_append]; rfl
    rw [this]
    exact told_loop x0 h d k (i + 1) (by omega) (by omega)
theorem told_f (x0 : List S30) (h : x0.length ≤ 1000000) (k : Nat) (hk : x0.length + 1 ≤ k) : sheetpilelaw20_told.f k x0 = some (x0.map tg) := told_loop x0 h x0.length k 0 (by omega) hk
theorem same_loop (a : List S24) (ha : a.length ≤ 1000000) (hs : ∀ g ∈ a, g.f1.length ≤ 64) : ∀ (d k i : Nat), i + d = a.length → d + 67 ≤ k → sheetpileref19_Same.l0 k a a (i : Int) = some true
  | 0, k, i, hi, hk => by
    obtain ⟨k, rfl⟩ : ∃ m, k = m + 1 := ⟨k - 1, by omega⟩
    rw [sheetpileref19_Same.l0, if_neg (by omega)]
  | d + 1, k, i, hi, hk => by
    obtain ⟨k, rfl⟩ : ∃ m, k = m + 1 := ⟨k - 1, by omega⟩
    have h64 := hs (a[i]'(by omega)) (List.getElem_mem _)
    rw [sheetpileref19_Same.l0, if_pos (by omega), if_pos (by omega), if_pos (by omega), if_pos rfl, rd_get2 a i (by omega), ref19_Changes_same _ (by omega) k (by omega), Option.bind_some, if_pos rfl, wrap_succ i a.length (by omega) (by omega)]
    exact same_loop a ha hs d k (i + 1) (by omega) (by omega)
theorem same_refl (a : List S24) (ha : a.length ≤ 1000000) (hs : ∀ g ∈ a, g.f1.length ≤ 64) (k : Nat) (hk : a.length + 67 ≤ k) : sheetpileref19_Same.f k a a = some true := by
  unfold sheetpileref19_Same.f
  rw [if_pos rfl]
  exact same_loop a ha hs a.length k 0 (by omega) hk
end Go.Proofs.Ytcgbjkjacpeheaa.Pure
namespace Go.Proofs.Ytcgbjkjacpeheaa.Pure
set_option linter.unusedVariables false
set_option linter.unusedSimpArgs false
open Go.RowKit Go.Proofs.Ytcgbjkjacpeheaa.PFr Go.Proofs.Ytcgbjkjacpeheaa.Given Go.Proofs.Ytcgbjkjacpeheaa.Bs Go.Proofs.Ytcgbjkjacpeheaa.WirePlain Go.Proofs.Ytcgbjkjacpeheaa.KeyPlain Go.Proofs.Ytcgbjkjacpeheaa.RunesPlain Go.Proofs.Ytcgbjkjacpeheaa.CrcPlain Go.Proofs.YtcgbjkjacpeheaaW.PrintWords Go.Proofs.YtcgbjkjacpeheaaW.PrintLast Go.Proofs.YtcgbjkjacpeheaaW.PrintMore
def numL : Int → List (List S62) → List S30
  | _, [] => []
  | a, c :: l => ⟨a, c⟩ :: numL (a + 1) l
theorem numL_length : ∀ (l : List (List S62)) (a : Int), (numL a l).length = l.length
  | [], _ => rfl
  | c :: l, a => by rw [numL, List.length_cons, numL_length l, List.length_cons]
theorem numL_f1 : ∀ (l : List (List S62)) (a : Int), (numL a l).map (fun g => g.f1) = l
  | [], _ => rfl
  | c :: l, a => by rw [numL, List.map_cons, numL_f1 l]
def swL : Int → List (List S62) → List UInt8 → List UInt8 × Int
  | _, [], acc => (acc, 0)
  | a, c :: l, acc => if (writeL a c).2 = 0 then swL (a + 1) l (acc ++ (writeL a c).1) else ([], (writeL a c).2)
def SmallL (l : List (List S62)) : Prop := ∀ c ∈ l, (∀ x ∈ c, x.f0.size ≤ 65535 ∧ x.f1.size ≤ 65535) ∧ (checkL c = 0 → (bodyL c).length ≤ 200000)
theorem writeL_len {c : List S62} (h : checkL c = 0 → (bodyL c).length ≤ 200000) (a : Int) : (writeL a c).1.length ≤ 200013 := by
  unfold writeL
  by_cases hc : checkL c = 0
  · rw [if_pos hc]
    split
    · show (frameL _ _).length ≤ _
      rw [frameL_length]; have := h hc; omega
    · exact Nat.zero_le _
  · rw [if_neg hc]; exact Nat.zero_le _
theorem bs_dat (l : List UInt8) : (bs l).data.toList = l := by rw [← ByteArray.toList_eq]; exact bs_toList l
theorem scanF_f : ∀ (l : List (List S62)) (a0 i : Int) (acc : List UInt8), SmallL l → -9223372036854775808 ≤ a0 → 0 ≤ i → a0 + i + l.length ≤ 4611686018427387904 → acc.length + 200013 * l.length ≤ 100000000 →
    scanF a0 l i acc = some (bs (swL (a0 + i) l acc).1, (swL (a0 + i) l acc).2)
  | [], a0, i, acc, _, _, _, _, _ => rfl
  | c :: l, a0, i, acc, hs, h0, hi, h1, hl => by
    rw [List.length_cons] at h1 hl
    obtain ⟨hc, hb⟩ := hs c List.mem_cons_self
    have hw := writeL_len hb (a0 + i)
    rw [scanF, wrap_id (by omega) (by omega), frame_Write_f (a0 + i) c (by omega) (by omega) hc, Option.bind_some, swL]
    dsimp only
    by_cases he : (writeL (a0 + i) c).2 = 0
    · rw [if_pos he, if_pos he, if_pos ⟨by rw [bs_size]; omega, by omega⟩, bs_dat, show a0 + i + 1 = a0 + (i + 1) by omega]
      exact scanF_f l a0 (i + 1) _ (fun x hx => hs x (List.mem_cons_of_mem _ hx)) h0 (by omega) (by omega) (by rw [List.length_append]; omega)
    · rw [if_neg he, if_neg he]; rfl
theorem scan_Write_f (a0 : Int) (l : List (List S62)) (hs : SmallL l) (h0 : -9223372036854775808 ≤ a0) (h1 : a0 ≤ 1152921504606847976) (hl : l.length ≤ 400) : scan_Write.f a0 l = some (bs (swL a0 l []).1, (swL a0 l []).2) := by
  unfold scan_Write.f
  rw [if_pos (by omega), scanF_f l a0 0 [] hs h0 (by omega) (by omega) (by rw [List.length_nil]; omega), Int.add_zero]
theorem rd_getL (l : List (List S62)) (i : Nat) (h : i < l.length) : rd_L6 l (i : Int) = l[i] := by
  unfold rd_L6
  rw [Int.toNat_natCast, List.getD_eq_getElem?_getD, List.getElem?_eq_getElem h]; rfl
theorem rw_loop (x1 : List (List S62)) (hs : SmallL x1) (x0 : Int) (h0 : -9223372036854775808 ≤ x0) (h1 : x0 ≤ 1152921504606846976) (hl : x1.length ≤ 400) (B : Nat) (hB : ∀ k, B ≤ k → 90000000 ≤ k) : ∀ (d k i : Nat) (acc : List UInt8), i + d = x1.length → B + d + 1 ≤ k → acc.length + 200013 * d ≤ 100000000 →
    sheetpileref20_Write.l0 k x0 x1 (bs acc) (i : Int) = some (bs (swL (x0 + i) (x1.drop i) acc).1, (swL (x0 + i) (x1.drop i) acc).2)
  | 0, k, i, acc, hi, hk, ha => by
    obtain ⟨k, rfl⟩ : ∃ m, k = m + 1 := ⟨k - 1, by omega⟩
    rw [sheetpileref20_Write.l0, if_neg (by omega), List.drop_of_length_le (by omega)]; rfl
  | d + 1, k, i, acc, hi, hk, ha => by
    obtain ⟨k, rfl⟩ : ∃ m, k = m + 1 := ⟨k - 1, by omega⟩
    have hi2 : i < x1.length := by omega
    obtain ⟨hc, hb⟩ := hs x1[i] (List.getElem_mem _)
    have hw := writeL_len hb (x0 + i)
    have h9 : 90000000 ≤ k := hB k (by omega)
    have hR := ref19_Write_f (x0 + i) x1[i] (by omega) (by omega) hc k h9
    rw [sheetpileref20_Write.l0, if_pos (by omega), if_pos (by omega), rd_getL x1 i hi2, wrap_id (by omega) (by omega), hR, Option.bind_some, List.drop_eq_getElem_cons hi2, swL]
    dsimp only
    by_cases he : (writeL (x0 + i) x1[i]).2 = 0
    · rw [if_pos he, if_pos he, bs_size, bs_size, if_pos (by omega), bs_append, wrap_succ i x1.length hi2 (by omega), show x0 + (i : Int) + 1 = x0 + ((i + 1 : Nat) : Int) by omega]
      exact rw_loop x1 hs x0 h0 h1 hl B hB d k (i + 1) _ (by omega) (by omega) (by rw [List.length_append]; omega)
    · rw [if_neg he, if_neg he]; rfl
theorem ref_Write_f (x1 : List (List S62)) (hs : SmallL x1) (x0 : Int) (h0 : -9223372036854775808 ≤ x0) (h1 : x0 ≤ 1152921504606846976) (hl : x1.length ≤ 400) (k : Nat) (hk : 90000401 ≤ k) :
    sheetpileref20_Write.f k x0 x1 = some (bs (swL x0 x1 []).1, (swL x0 x1 []).2) := by
  have := rw_loop x1 hs x0 h0 h1 hl 90000000 (fun k h => h) x1.length k 0 [] (by omega) (by omega) (by rw [List.length_nil]; omega)
  unfold sheetpileref20_Write.f
  rw [show ((0 : Nat) : Int) = 0 from rfl, Int.add_zero, List.drop_zero] at this
  exact this
/-! ### few -/
def few20 (l : List (List S62)) : Prop := l.length ≤ 20 ∧ ∀ c ∈ l, c.length ≤ 80 ∧ ∀ x ∈ c, x.f0.size ≤ 300 ∧ x.f1.size ≤ 1200
theorem few20_loop (l : List (List S62)) (hl : l.length ≤ 10000000000000) (M : Nat) (hM : ∀ c ∈ l, c.length ≤ M) (hMM : M ≤ 10000000000000) : ∀ (d k i : Nat), i + d = l.length → d + M + 2 ≤ k →
    ∃ b, sheetpileref20_Few.l0 k l (i : Int) = some b ∧ (b = true → l.length ≤ 20 ∧ ∀ c ∈ l.drop i, c.length ≤ 80 ∧ ∀ x ∈ c, x.f0.size ≤ 300 ∧ x.f1.size ≤ 1200)
  | 0, k, i, hi, hk => by
    obtain ⟨k, rfl⟩ : ∃ m, k = m + 1 := ⟨k - 1, by omega⟩
    rw [sheetpileref20_Few.l0, if_neg (by omega), List.drop_of_length_le (by omega)]
    exact ⟨_, rfl, fun h => ⟨by have := of_decide_eq_true h; omega, by simp⟩⟩
  | d + 1, k, i, hi, hk => by
    obtain ⟨k, rfl⟩ : ∃ m, k = m + 1 := ⟨k - 1, by omega⟩
    have hi2 : i < l.length := by omega
    have hm := hM l[i] (List.getElem_mem _)
    rw [sheetpileref20_Few.l0, if_pos (by omega), if_pos (by omega), rd_getL l i hi2, few_f l[i] (by omega) k (by omega), Option.bind_some, wrap_id (by omega) (by omega), List.drop_eq_getElem_cons hi2]
    by_cases hf : (fewL l[i] && decide (l[i].length ≤ 80)) = true
    · obtain ⟨b, hb, hb2⟩ := few20_loop l hl M hM hMM d k (i + 1) (by omega) (by omega)
      rw [if_pos hf]
      refine ⟨b, hb, fun h => ⟨(hb2 h).1, fun c hc => ?_⟩⟩
      rcases List.mem_cons.1 hc with rfl | hc
      · exact few_sizes hf
      · exact (hb2 h).2 c hc
    · rw [if_neg hf]
      exact ⟨_, rfl, fun h => by cases h⟩
theorem few20_f (l : List (List S62)) (hl : l.length ≤ 10000000000000) (M : Nat) (hM : ∀ c ∈ l, c.length ≤ M) (hMM : M ≤ 10000000000000) (k : Nat) (hk : l.length + M + 2 ≤ k) : ∃ b, sheetpileref20_Few.f k l = some b ∧ (b = true → few20 l) := by
  obtain ⟨b, h1, h2⟩ := few20_loop l hl M hM hMM l.length k 0 (by omega) hk
  exact ⟨b, h1, h2⟩
theorem max_len (P : List S62 → Prop) (B : Nat) : ∀ l : List (List S62), (∀ c ∈ l, c.length ≤ B) → ∃ M, (∀ c ∈ l, c.length ≤ M) ∧ M ≤ B
  | l, h => ⟨B, h, Nat.le_refl _⟩
theorem bodyL_small : ∀ l : List S62, (∀ c ∈ l, c.f0.size ≤ 300 ∧ c.f1.size ≤ 1200) → (bodyL l).length ≤ 1505 * l.length
  | [], _ => Nat.le_refl _
  | c :: l, h => by
    have h0 := h c List.mem_cons_self
    have h1 := bodyL_small l (fun x hx => h x (List.mem_cons_of_mem _ hx))
    rw [bodyL_cons, List.length_append, List.length_cons]
    have : (chB txL c).length ≤ 1505 := by
      unfold chB
      split
      · rw [List.length_cons, txL_len]; omega
      · rw [List.length_cons, List.length_append, txL_len, txL_len]; omega
    omega
theorem small_few {l : List (List S62)} (h : few20 l) : SmallL l := fun c hc => by
  obtain ⟨h1, h2⟩ := h.2 c hc
  refine ⟨fun x hx => by have := h2 x hx; omega, fun h0 => ?_⟩
  have := bodyL_small c h2
  have := checkL_len h0
  omega
/-! ### what is written -/
def OkG (g : S30) : Prop := 0 ≤ g.f0 ∧ g.f0 < 4294967296 ∧ checkL g.f1 = 0
theorem swL_ok : ∀ (l : List (List S62)) (a : Int) (acc : List UInt8), (swL a l acc).2 = 0 → (swL a l acc).1 = acc ++ framesL (numL a l) ∧ ∀ g ∈ numL a l, OkG g
  | [], a, acc, _ => ⟨by simp [swL, numL, framesL], by simp [numL]⟩
  | c :: l, a, acc, h => by
    rw [swL] at h ⊢
    by_cases he : (writeL a c).2 = 0
    · rw [if_pos he] at h ⊢
      obtain ⟨h1, h2⟩ := swL_ok l (a + 1) _ h
      have hw : writeL a c = (frameL a.toNat c, 0) ∧ OkG ⟨a, c⟩ := by
        unfold writeL at he ⊢
        by_cases hc : checkL c = 0
        · rw [if_pos hc] at he ⊢
          by_cases ha : 0 ≤ a ∧ a < 4294967296
          · rw [if_pos ha]; exact ⟨rfl, ha.1, ha.2, hc⟩
          · rw [if_neg ha] at he; exact absurd he (by decide)
        · rw [if_neg hc] at he; exact absurd he hc
      rw [hw.1] at h1 ⊢
      refine ⟨by rw [h1, List.append_assoc]; rfl, fun g hg => ?_⟩
      rw [numL] at hg
      rcases List.mem_cons.1 hg with rfl | hg
      · exact hw.2
      · exact h2 g hg
    · rw [if_neg he] at h; exact absurd h he
theorem swL_good : ∀ (l : List (List S62)) (a : Int) (acc : List UInt8), (∀ g ∈ numL a l, OkG g) → swL a l acc = (acc ++ framesL (numL a l), 0)
  | [], a, acc, _ => by simp [swL, numL, framesL]
  | c :: l, a, acc, h => by
    rw [numL] at h
    obtain ⟨h1, h2, h3⟩ := h _ List.mem_cons_self
    have hw : writeL a c = (frameL a.toNat c, 0) := by unfold writeL; rw [if_pos h3, if_pos ⟨h1, h2⟩]
    rw [swL, hw]
    dsimp only
    rw [if_pos rfl, swL_good l (a + 1) _ (fun g hg => h g (List.mem_cons_of_mem _ hg)), List.append_assoc]; rfl
theorem good_num {l : List (List S62)} {a : Int} (hs : ∀ c ∈ l, ∀ x ∈ c, x.f0.size ≤ 65535) (h : ∀ g ∈ numL a l, OkG g) : ∀ g ∈ numL a l, Good g := fun g hg => by
  obtain ⟨h1, h2, h3⟩ := h g hg
  refine ⟨h1, h2, h3, normL_of h3 (hs g.f1 ?_)⟩
  have := List.mem_map_of_mem (f := fun g : S30 => g.f1) hg
  rwa [numL_f1] at this
theorem chain_num : ∀ (l : List (List S62)) (a : Int) (acc : List S30), (∀ g, acc.getLast? = some g → wrap64 (g.f0 + 1) = a) → (∀ g ∈ numL a l, OkG g) → ChainL acc (numL a l)
  | [], a, acc, _, _ => trivial
  | c :: l, a, acc, h, hg => by
    rw [numL] at hg ⊢
    obtain ⟨h1, h2, _⟩ := hg _ List.mem_cons_self
    refine ⟨?_, chain_num l (a + 1) _ (fun g h2 => ?_) (fun g hx => hg g (List.mem_cons_of_mem _ hx))⟩
    · show brk acc a = false
      unfold brk
      cases hl : acc.getLast? with
      | none => rfl
      | some g => dsimp only; rw [h g hl]; simp
    · rw [List.getLast?_concat] at h2
      obtain rfl := Option.some.inj h2
      exact wrap_id (by omega) (by omega)
theorem chain_back : ∀ (new : List S30) (a : Int) (acc : List S30), (∃ g, acc.getLast? = some g ∧ wrap64 (g.f0 + 1) = a) → ChainL acc new → (∀ g ∈ new, Good g) → new = numL a (new.map (fun g => g.f1))
  | [], a, acc, _, _, _ => rfl
  | g :: new, a, acc, ⟨g0, h, hw⟩, hc, hg => by
    have hb := hc.1
    unfold brk at hb
    rw [h] at hb
    have ha : g.f0 = a := by rw [← hw]; simpa using hb
    obtain ⟨h1, h2, _⟩ := hg g List.mem_cons_self
    have := chain_back new (a + 1) (acc ++ [g]) ⟨g, List.getLast?_concat, by rw [ha]; exact wrap_id (by omega) (by omega)⟩ hc.2 (fun x hx => hg x (List.mem_cons_of_mem _ hx))
    rw [List.map_cons, numL, ← this, ← ha]
theorem chain_nil {g : S30} {new : List S30} (hc : ChainL [] (g :: new)) (hg : ∀ x ∈ g :: new, Good x) : g :: new = numL g.f0 ((g :: new).map (fun g => g.f1)) := by
  obtain ⟨h1, h2, _⟩ := hg g List.mem_cons_self
  rw [List.map_cons, numL, ← chain_back new (g.f0 + 1) ([] ++ [g]) ⟨g, rfl, wrap_id (by omega) (by omega)⟩ hc.2 (fun x hx => hg x (List.mem_cons_of_mem _ hx))]
theorem numL_get : ∀ (l : List (List S62)) (a : Int) (j : Nat) (h : j < (numL a l).length) (h2 : j < l.length), (numL a l)[j] = ⟨a + j, l[j]⟩
  | [], _, _, _, h2 => absurd h2 (by simp)
  | c :: l, a, 0, _, _ => by simp [numL]
  | c :: l, a, j + 1, h, h2 => by
    have := numL_get l (a + 1) j (by rw [numL_length]; simpa using h2) (by simpa using h2)
    simp only [numL, List.getElem_cons_succ]
    rw [this, show a + 1 + (j : Int) = a + ((j + 1 : Nat) : Int) by omega]
theorem numL_append : ∀ (l m : List (List S62)) (a : Int), numL a (l ++ m) = numL a l ++ numL (a + l.length) m
  | [], m, a => by rw [List.nil_append, List.length_nil, show a + ((0 : Nat) : Int) = a by omega]; rfl
  | c :: l, m, a => by rw [List.cons_append, numL, numL_append l m, numL, List.cons_append, List.length_cons, show a + 1 + (l.length : Int) = a + ((l.length + 1 : Nat) : Int) by omega]
theorem framesL_append : ∀ l m : List S30, framesL (l ++ m) = framesL l ++ framesL m
  | [], m => rfl
  | g :: l, m => by rw [List.cons_append, framesL, framesL_append l m, framesL, List.append_assoc]
theorem framesL_len : ∀ l : List S30, 13 * l.length ≤ (framesL l).length
  | [] => Nat.le_refl _
  | g :: l => by have := framesL_len l; rw [framesL, List.length_append, frameL_length, List.length_cons]; omega
theorem framesL_mem : ∀ (l : List S30), ∀ g ∈ l, (bodyL g.f1).length + 13 ≤ (framesL l).length
  | [], g, h => by simp at h
  | x :: l, g, h => by
    rw [framesL, List.length_append]
    rcases List.mem_cons.1 h with rfl | h
    · rw [frameL_length]; omega
    · have := framesL_mem l g h; omega
theorem frames_few : ∀ (l : List (List S62)) (a : Int), (∀ c ∈ l, (bodyL c).length ≤ 100000) → (framesL (numL a l)).length ≤ 100013 * l.length
  | [], _, _ => Nat.le_refl _
  | c :: l, a, h => by
    have h1 := frames_few l (a + 1) (fun x hx => h x (List.mem_cons_of_mem _ hx))
    have h2 := h c List.mem_cons_self
    rw [numL, framesL, List.length_append, frameL_length, List.length_cons]
    dsimp only
    omega
theorem few_body {l : List (List S62)} {a : Int} (h : few20 l) (hok : ∀ g ∈ numL a l, OkG g) : ∀ c ∈ l, (bodyL c).length ≤ 100000 := fun c hc => by
  obtain ⟨h1, h2⟩ := h.2 c hc
  rw [← numL_f1 l a] at hc
  obtain ⟨g, hg, rfl⟩ := List.mem_map.1 hc
  have := bodyL_small g.f1 h2
  have := checkL_len (hok g hg).2.2
  omega
theorem chain_take : ∀ (l acc : List S30) (i : Nat), ChainL acc l → ChainL acc (l.take i)
  | [], _, i, _ => by rw [List.take_nil]; trivial
  | g :: l, acc, 0, _ => trivial
  | g :: l, acc, i + 1, h => ⟨h.1, chain_take l (acc ++ [g]) i h.2⟩
theorem chain_app : ∀ (l m acc : List S30), ChainL acc l → ChainL (acc ++ l) m → ChainL acc (l ++ m)
  | [], m, acc, _, h => by rw [List.append_nil] at h; exact h
  | g :: l, m, acc, h, h2 => ⟨h.1, chain_app l m (acc ++ [g]) h.2 (by rw [List.append_assoc]; exact h2)⟩
/-! ### the document's -/
def docL : List (List S62) := [[⟨⟨#[97]⟩, ⟨#[49]⟩, false⟩], [⟨⟨#[97]⟩, ⟨#[]⟩, true⟩]]
theorem docL_ok : (∀ g ∈ numL 5 docL, OkG g) ∧ few20 docL := by
  refine ⟨fun g hg => ?_, by decide, fun c hc => ?_⟩
  · simp only [docL, numL, List.mem_cons, List.not_mem_nil, or_false] at hg
    rcases hg with rfl | rfl
    · exact ⟨by decide, by decide, by decide +kernel⟩
    · exact ⟨by decide, by decide, by decide +kernel⟩
  · simp only [docL, List.mem_cons, List.not_mem_nil, or_false] at hc
    rcases hc with rfl | rfl
    · refine ⟨by decide, fun x hx => ?_⟩
      simp only [List.mem_singleton] at hx
      subst hx
      exact ⟨by decide, by decide⟩
    · refine ⟨by decide, fun x hx => ?_⟩
      simp only [List.mem_singleton] at hx
      subst hx
      exact ⟨by decide, by decide⟩
theorem live20 : sheetpilelaw20_live.f = some true := by
  obtain ⟨hok, hfew⟩ := docL_ok
  have hg := good_num (fun c hc x hx => by have := (hfew.2 c hc).2 x hx; omega) hok
  have hc := chain_num docL 5 [] (fun g h => by simp at h) hok
  have hfl : (framesL (numL 5 docL)).length = 37 := by
    simp only [docL, numL, framesL, List.length_append, List.length_nil, frameL_length]; decide
  unfold sheetpilelaw20_live.f
  rw [if_pos ?_]
  unfold sheetpilelaw20_live0.f
  show (scan_Write.f 5 docL).bind _ = _
  rw [scan_Write_f 5 docL (small_few hfew) (by decide) (by decide) (by decide), swL_good docL 5 [] hok, List.nil_append, Option.bind_some]
  dsimp only
  rw [bs_size, hfl, if_pos (by decide), show (⟨#[106, 117, 110, 107]⟩ : ByteArray) = bs [106, 117, 110, 107] from rfl, bs_append, all_run (numL 5 docL) [106, 117, 110, 107] (by rw [List.length_append, hfl]; decide) hg hc (fun h => absurd h (by decide)), Option.bind_some]
  show (scan_Write.f 0 [[]]).bind _ = _
  rw [scan_Write_f 0 [[]] (fun c hc => by
    simp only [List.mem_singleton] at hc
    subst hc
    exact ⟨by simp, fun _ => by decide⟩) (by decide) (by decide) (by decide), Option.bind_some, show (⟨#[]⟩ : ByteArray) = bs (framesL [] ++ []) from rfl, all_run [] [] (by decide) (by simp) trivial (stop_nil _), Option.bind_some, hfl]
  decide
end Go.Proofs.Ytcgbjkjacpeheaa.Pure
