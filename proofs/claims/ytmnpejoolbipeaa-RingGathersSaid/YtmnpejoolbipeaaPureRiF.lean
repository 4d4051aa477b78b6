/- What the sectors' functions answer, in lists of bytes. -/
import Derived.Test.YtmnpejoolbipeaaPureRiL
import Derived.Test.YtmnpejoolbipeaaBlockOpen
import Derived.Test.YtmnpejoolbipeaaPRix4
import Derived.Test.YtmnpejoolbipeaaPRix5
import Derived.Test.YtmnpejoolbipeaaPRix7
import Derived.Test.YtmnpejoolbipeaaPRix8
namespace Go.Proofs.Ytmnpejoolbipeaa.Pure
set_option linter.unusedVariables false
set_option linter.unusedSimpArgs false
open Go.RowKit Go.Proofs.Ytmnpejoolbipeaa.PRi Go.Proofs.Ytmnpejoolbipeaa.Given Go.Proofs.Ytmnpejoolbipeaa.Bs Go.Proofs.Ytmnpejoolbipeaa.WirePlain Go.Proofs.Ytmnpejoolbipeaa.KeyPlain Go.Proofs.Ytmnpejoolbipeaa.CrcPlain Go.Proofs.YtmnpejoolbipeaaW.PrintWords Go.Proofs.YtmnpejoolbipeaaW.PrintLast Go.Proofs.YtmnpejoolbipeaaW.PrintMore
theorem wire_Cut_f (l : List UInt8) (size : Int) (h : l.length ≤ 281474976710656) : wire_Cut.f (bs l) size = some ((cutL l size).1, bs (cutL l size).2.1, (cutL l size).2.2) := by
  unfold wire_Cut.f cutL
  rw [bs_size, if_pos h]
  by_cases h1 : size < 1
  · rw [if_pos h1, if_pos (.inl h1)]; rfl
  · rw [if_neg h1]
    by_cases h2 : 7 < size
    · rw [if_pos h2, if_pos (.inr h2)]; rfl
    · have h4 : ¬ (size < 1 ∨ 7 < size) := by omega
      rw [if_neg h2, if_neg h4]
      by_cases h3 : (l.length : Int) < size
      · rw [if_pos h3, if_pos h3]; rfl
      · rw [if_neg h3, if_neg h3, bs_data, bs_extract_end]
theorem wire_Take_f (l : List UInt8) (h : l.length ≤ 281474976710656) : wire_Take.f (bs l) = some (bs (takeL l).1, bs (takeL l).2.1, (takeL l).2.2) := by
  unfold wire_Take.f takeL
  rw [wire_Cut_f l 2 h, Option.bind_some]
  by_cases h2 : l.length < 2
  · have hc : cutL l 2 = (0, [], 4) := by unfold cutL; rw [if_neg (by omega), if_pos (by omega)]
    rw [hc, if_neg (by decide), if_pos h2]; rfl
  · have hc : cutL l 2 = (((lowN (l.take 2) : Nat) : Int), l.drop 2, 0) := cutL_ok (s := 2) (by decide) (by decide) (by omega)
    rw [hc, if_pos rfl, if_neg h2]
    simp only [bs_size, List.length_drop]
    by_cases h3 : l.length - 2 < lowN (l.take 2)
    · rw [if_pos (by omega), if_pos h3]; rfl
    · rw [if_neg (by omega), if_neg h3, if_pos (by omega), if_pos (by omega)]
      rw [Int.toNat_natCast, bs_extract_zero, ← List.length_drop, bs_extract_end]
theorem crc_More_f (a0 : Nat) (s : ByteArray) (h0 : a0 < 4294967296) (h1 : s.size ≤ 281474976710656) : crc_More.f a0 s = some ((more a0 s.data.toList : Nat) : Int) := by
  unfold crc_More.f
  rw [if_pos (by omega), if_pos (by omega), if_pos h1, Int.toNat_natCast]
theorem crc_Sum_f (s : ByteArray) (h1 : s.size ≤ 281474976710656) : crc_Sum.f s = some ((more 0 s.data.toList : Nat) : Int) := by
  unfold crc_Sum.f
  have := crc_More_f 0 s (by decide) h1
  rw [show ((0 : Nat) : Int) = 0 from rfl] at this
  rw [this]; rfl
def readL (l : List UInt8) : Int × Int × List UInt8 × Int :=
  if l.take 3 = [73, 78, 84] then
    (if (cutL (l.drop 3) 7).2.2 = 0 ∧ (cutL (cutL (l.drop 3) 7).2.1 2).2.2 = 0 ∧ (takeL (cutL (cutL (l.drop 3) 7).2.1 2).2.1).2.2 = 0 ∧ (takeL (cutL (cutL (l.drop 3) 7).2.1 2).2.1).2.1 = [] then
      ((cutL (l.drop 3) 7).1, (cutL (cutL (l.drop 3) 7).2.1 2).1, (takeL (cutL (cutL (l.drop 3) 7).2.1 2).2.1).1, 0) else (0, 0, [], 5))
  else (0, 0, [], 5)
theorem cutL_errs (l : List UInt8) (s : Nat) (h1 : 1 ≤ s) (h7 : s ≤ 7) : (cutL l s).2.2 = 0 ∨ cutL l s = (0, [], 4) := by
  unfold cutL
  rw [if_neg (by omega)]
  split
  · exact .inr rfl
  · exact .inl rfl
theorem lit_INT : (⟨#[73, 78, 84]⟩ : ByteArray) = bs [73, 78, 84] := rfl
theorem lit_nil : (⟨#[]⟩ : ByteArray) = bs [] := rfl
theorem hasPrefix_f (l m : List UInt8) : stringslite_HasPrefix.f (bs l) (bs m) = some (l.take m.length == m) := by
  unfold stringslite_HasPrefix.f
  rw [bs_size, bs_size]
  by_cases h : (l.length : Int) ≥ (m.length : Int)
  · rw [if_pos h, if_pos (by omega), if_pos (by omega), Int.toNat_natCast, bs_extract_zero, bs_toList, bs_toList]
  · rw [if_neg h]
    have : (l.take m.length == m) = false := by
      simp only [beq_eq_false_iff_ne, ne_eq]
      intro hc
      have := congrArg List.length hc
      rw [List.length_take] at this; omega
    rw [this]
theorem cutPrefix_f (l m : List UInt8) : strings_CutPrefix.f (bs l) (bs m) = some (if l.take m.length = m then (bs (l.drop m.length), true) else (bs l, false)) := by
  unfold strings_CutPrefix.f stringslite_CutPrefix.f
  rw [hasPrefix_f, Option.bind_some]
  by_cases h : l.take m.length = m
  · have hl : m.length ≤ l.length := by
      have := congrArg List.length h
      rw [List.length_take] at this; omega
    rw [if_pos (by simpa using h), if_pos h, bs_size, bs_size, if_pos (by omega), if_pos (by omega), Int.toNat_natCast, bs_extract_end]; rfl
  · rw [if_neg (by simpa using h), if_neg h]; rfl
theorem mx3 {a b c : Int} (ha : a = 0 ∨ a = 4) (hb : b = 0 ∨ b = 4) (hc : c = 0 ∨ c = 4) : mx (mx a b) c = 0 ↔ a = 0 ∧ b = 0 ∧ c = 0 := by
  unfold mx
  rcases ha with rfl | rfl <;> rcases hb with rfl | rfl <;> rcases hc with rfl | rfl <;> decide
theorem cut_len (l : List UInt8) (s : Int) : (cutL l s).2.1.length ≤ l.length := by
  unfold cutL; split
  · simp
  · split
    · simp
    · rw [List.length_drop]; omega
theorem intent_Read_f (l : List UInt8) (h : l.length ≤ 281474976710656) : intent_Read.f (bs l) = some ((readL l).1, (readL l).2.1, bs (readL l).2.2.1, (readL l).2.2.2) := by
  unfold intent_Read.f readL
  by_cases hp : l.take 3 = [73, 78, 84]
  · have hcp : strings_CutPrefix.f (bs l) (bs [73, 78, 84]) = some (bs (l.drop 3), true) := by rw [cutPrefix_f]; exact congrArg some (if_pos hp)
    rw [lit_INT, hcp, Option.bind_some, if_pos rfl, if_pos hp]
    have hd : (l.drop 3).length ≤ 281474976710656 := by rw [List.length_drop]; omega
    simp only []
    rw [wire_Cut_f _ _ hd, Option.bind_some]
    have hc1 := cut_len (l.drop 3) 7
    simp only []
    rw [wire_Cut_f _ _ (by omega), Option.bind_some]
    have hc2 := cut_len (cutL (l.drop 3) 7).2.1 2
    simp only []
    rw [wire_Take_f _ (by omega), Option.bind_some]
    have e1 : (cutL (l.drop 3) 7).2.2 = 0 ∨ (cutL (l.drop 3) 7).2.2 = 4 := (cutL_errs (l.drop 3) 7 (by decide) (by decide)).imp id (fun hh => by rw [show ((7 : Nat) : Int) = 7 from rfl] at hh; rw [hh])
    generalize cutL (l.drop 3) 7 = c1 at *
    have e2 : (cutL c1.2.1 2).2.2 = 0 ∨ (cutL c1.2.1 2).2.2 = 4 := (cutL_errs c1.2.1 2 (by decide) (by decide)).imp id (fun hh => by rw [show ((2 : Nat) : Int) = 2 from rfl] at hh; rw [hh])
    generalize cutL c1.2.1 2 = c2 at *
    have e3 : (takeL c2.2.1).2.2 = 0 ∨ (takeL c2.2.1).2.2 = 4 := (takeL_err c2.2.1).imp id (fun hh => by rw [hh])
    generalize takeL c2.2.1 = c3 at *
    have hm := mx3 e1 e2 e3
    simp only [bs_toList]
    by_cases hz : c1.2.2 = 0 ∧ c2.2.2 = 0 ∧ c3.2.2 = 0
    · rw [if_pos (hm.2 hz)]
      by_cases hr : c3.2.1 = []
      · rw [if_pos hr, if_pos ⟨hz.1, hz.2.1, hz.2.2, hr⟩]
      · rw [if_neg hr, if_neg (fun hh => hr hh.2.2.2)]; rfl
    · rw [if_neg (fun hh => hz (hm.1 hh)), if_neg (fun hh => hz ⟨hh.1, hh.2.1, hh.2.2.1⟩)]; rfl
  · have hcp : strings_CutPrefix.f (bs l) (bs [73, 78, 84]) = some (bs l, false) := by rw [cutPrefix_f]; exact congrArg some (if_neg hp)
    rw [lit_INT, hcp, Option.bind_some, if_neg Bool.false_ne_true, if_neg hp]; rfl
theorem lit_SPL : (⟨#[83, 80, 76]⟩ : ByteArray) = bs [83, 80, 76] := rfl
/-- What block.Open answers. -/
def openU (l : List UInt8) (c1 c2 c3 c4 : Int) (t : List UInt8 × List UInt8 × Int) : Int × Int × Int × Int × List UInt8 × Int :=
  if t.2.2 = 0 ∧ 4 ≤ t.2.1.length then (if t.2.1.length ≤ 4 then (if (cutL t.2.1 4).1 = wrap64 ((more 0 (l.take (l.length - 4)) : Nat) : Int) then (c1, c2, c3, c4, t.1, 0) else (0, 0, 0, 0, [], 6)) else (0, 0, 0, 0, [], 5)) else (0, 0, 0, 0, [], 4)
def openV (l : List UInt8) (c1 c2 c3 c4 : Int × List UInt8 × Int) : Int × Int × Int × Int × List UInt8 × Int := openU l c1.1 c2.1 c3.1 c4.1 (takeL c4.2.1)
def openL (l : List UInt8) : Int × Int × Int × Int × List UInt8 × Int :=
  if l.length < 26 then (0, 0, 0, 0, [], 4) else if l.take 3 = [83, 80, 76] then
    openV l (cutL (l.drop 3) 4) (cutL (cutL (l.drop 3) 4).2.1 2) (cutL (cutL (cutL (l.drop 3) 4).2.1 2).2.1 4) (cutL (cutL (cutL (cutL (l.drop 3) 4).2.1 2).2.1 4).2.1 7)
  else (0, 0, 0, 0, [], 5)
def six (o : Int × Int × Int × Int × List UInt8 × Int) : Int × Int × Int × Int × ByteArray × Int := (o.1, o.2.1, o.2.2.1, o.2.2.2.1, bs o.2.2.2.2.1, o.2.2.2.2.2)
theorem take_len (l : List UInt8) : (takeL l).2.1.length ≤ l.length := by
  unfold takeL
  split
  · simp
  · split
    · simp
    · simp
theorem openT_f (l : List UInt8) (hl : l.length ≤ 281474976710656) (c1 c2 c3 c4 : Int) (t : List UInt8 × List UInt8 × Int) (ht : t.2.1.length ≤ 281474976710656) : openT (bs l) c1 c2 c3 c4 (bs t.1, bs t.2.1, t.2.2) = some (six (openU l c1 c2 c3 c4 t)) := by
  unfold openT openU
  simp only [bs_size]
  by_cases h1 : t.2.2 = 0 ∧ 4 ≤ t.2.1.length
  · rw [if_pos h1, if_pos h1]
    by_cases h2 : t.2.1.length ≤ 4
    · rw [if_pos h2, if_pos h2, wire_Cut_f _ _ ht, Option.bind_some, bs_extract_zero, crc_Sum_f _ (by rw [bs_size, List.length_take]; omega), Option.bind_some, bs_data]
      by_cases h3 : (cutL t.2.1 4).1 = wrap64 ((more 0 (l.take (l.length - 4)) : Nat) : Int)
      · rw [if_pos h3]; simp only [if_pos h3]; rfl
      · rw [if_neg h3]; simp only [if_neg h3]; rfl
    · rw [if_neg h2, if_neg h2]; rfl
  · rw [if_neg h1, if_neg h1]; rfl
theorem block_Open_f (l : List UInt8) (h : l.length ≤ 281474976710656) : block_Open.f (bs l) = some (six (openL l)) := by
  unfold block_Open.f openL
  rw [lit_SPL, cutPrefix_f, Option.bind_some, bs_size]
  by_cases h26 : l.length < 26
  · rw [if_pos (.inl (by omega)), if_pos (by omega), if_pos h26]; rfl
  · rw [if_neg h26]
    by_cases hp : l.take 3 = [83, 80, 76]
    · have hp' : l.take ([83, 80, 76] : List UInt8).length = [83, 80, 76] := hp
      rw [if_pos hp', if_neg (by intro hh; rcases hh with hh | hh; omega; cases hh), if_pos h, if_pos hp]
      have hd : (l.drop 3).length ≤ 281474976710656 := by rw [List.length_drop]; omega
      unfold openF
      show ((wire_Cut.f (bs (l.drop 3)) 4).bind _) = _
      rw [wire_Cut_f _ _ hd, Option.bind_some]
      have hc1 := cut_len (l.drop 3) 4
      simp only []
      generalize cutL (l.drop 3) 4 = c1 at *
      rw [wire_Cut_f _ _ (by omega), Option.bind_some]
      have hc2 := cut_len c1.2.1 2
      simp only []
      generalize cutL c1.2.1 2 = c2 at *
      rw [wire_Cut_f _ _ (by omega), Option.bind_some]
      have hc3 := cut_len c2.2.1 4
      simp only []
      generalize cutL c2.2.1 4 = c3 at *
      rw [wire_Cut_f _ _ (by omega), Option.bind_some]
      have hc4 := cut_len c3.2.1 7
      simp only []
      generalize cutL c3.2.1 7 = c4 at *
      rw [wire_Take_f _ (by omega), Option.bind_some]
      have ht := take_len c4.2.1
      unfold openV
      generalize takeL c4.2.1 = t at *
      exact openT_f l h _ _ _ _ t (by omega)
    · have hp' : ¬ l.take ([83, 80, 76] : List UInt8).length = [83, 80, 76] := hp
      rw [if_neg hp', if_pos (.inr rfl), if_neg (by omega), if_neg hp]; rfl
/-- What block.Own answers. -/
def ownL (l : List UInt8) (a d p : Int) : Int × Int × Int × Int × List UInt8 × Int :=
  if (openL l).2.2.2.2.2 = 0 then (if (openL l).1 = a ∧ (openL l).2.1 = d ∧ (openL l).2.2.1 = p then openL l else (0, 0, 0, 0, [], 5)) else (0, 0, 0, 0, [], (openL l).2.2.2.2.2)
theorem block_Own_f (k : Nat) (l : List UInt8) (h : l.length ≤ 281474976710656) (a d p : Int) : block_Own.f (k + 1) (bs l) a d p = some (six (ownL l a d p)) := by
  unfold block_Own.f ownL
  rw [block_Open_f l h, Option.bind_some]
  generalize openL l = o
  obtain ⟨o1, o2, o3, o4, o5, o6⟩ := o
  change (if o6 = 0 then block_Own.j0 (k + 1) o6 (!(o1 == a) || (!(o2 == d) || !(o3 == p))) o1 o2 o3 o4 (bs o5) else block_Own.j0 (k + 1) o6 false o1 o2 o3 o4 (bs o5)) = some (six (if o6 = 0 then (if o1 = a ∧ o2 = d ∧ o3 = p then (o1, o2, o3, o4, o5, o6) else (0, 0, 0, 0, [], 5)) else (0, 0, 0, 0, [], o6)))
  by_cases h6 : o6 = 0
  · subst h6
    rw [if_pos rfl, if_pos rfl, block_Own.j0]
    by_cases hq : o1 = a ∧ o2 = d ∧ o3 = p
    · obtain ⟨rfl, rfl, rfl⟩ := hq
      simp [six]
    · rw [if_neg hq]
      have : ((!(o1 == a)) || ((!(o2 == d)) || (!(o3 == p)))) = true := by
        simp only [Bool.or_eq_true, Bool.not_eq_true', beq_eq_false_iff_ne, ne_eq]
        omega
      rw [if_pos this, if_neg (by decide)]; rfl
  · rw [if_neg h6, if_neg h6, block_Own.j0, if_neg (by decide), if_neg h6]; rfl
end Go.Proofs.Ytmnpejoolbipeaa.Pure
