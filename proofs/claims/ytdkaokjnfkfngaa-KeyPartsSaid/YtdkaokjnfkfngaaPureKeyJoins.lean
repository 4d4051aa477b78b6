/- Two keys together are one if they are not too long; runes are counted together. -/
import Derived.Test.YtdkaokjnfkfngaaPKeyx4
import Derived.Test.YtdkaokjnfkfngaaPureKeyBase
namespace Go.Proofs.Ytdkaokjnfkfngaa.Pure
set_option linter.unusedVariables false
set_option linter.unusedSimpArgs false
open Go.RowKit Go.Proofs.Ytdkaokjnfkfngaa.PKey Go.Proofs.Ytdkaokjnfkfngaa.Given Go.Proofs.Ytdkaokjnfkfngaa.Bs Go.Proofs.Ytdkaokjnfkfngaa.KeyPlain Go.Proofs.Ytdkaokjnfkfngaa.RunesPlain Go.Proofs.YtdkaokjnfkfngaaW.PrintWords Go.Proofs.YtdkaokjnfkfngaaW.PrintLast
theorem runesR_some {l : List UInt8} {xs : List Nat} (h : runesL l = some xs) : runesR l = (intsOf xs, true) := by unfold runesR; rw [h]
theorem runesR_none {l : List UInt8} (h : runesL l = none) : runesR l = ([], false) := by unfold runesR; rw [h]
theorem intsOf_append (xs ys : List Nat) : intsOf (xs ++ ys) = intsOf xs ++ intsOf ys := by simp [intsOf]
theorem checkR_zero (xs : List Int) : checkR (xs, true) = 0 ↔ xs ≠ [] ∧ xs.length ≤ 64 ∧ xs.any badR = false := by
  unfold checkR
  simp only [true_and]
  split
  · rename_i h
    cases hb : xs.any badR <;> simp [h]
  · rename_i h
    constructor
    · intro e; cases e
    · intro e; exact absurd ⟨e.1, e.2.1⟩ h
theorem KeyJoins : sheetpilelaw08_KeyJoins.Pure := by
  intro a0 a1 h0 h1
  obtain ⟨a, rfl⟩ := ex_bs a0
  obtain ⟨b, rfl⟩ := ex_bs a1
  refine ⟨80, ?_⟩
  unfold sheetpilelaw08_KeyJoins.f
  rw [bs_size, bs_size]
  have done : sheetpilelaw08_KeyJoins.j0 80 (bs a) (bs b) true = some true := by
    rw [sheetpilelaw08_KeyJoins.j0, if_pos rfl, live08 79 (by decide)]; rfl
  by_cases ha : (a.length : Int) > 1000
  · rw [if_pos ha, done]
  · rw [if_neg ha]
    by_cases hb : (b.length : Int) > 1000
    · have hd : decide ((b.length : Int) > 1000) = true := decide_eq_true hb
      rw [hd, done]
    · have hd : decide ((b.length : Int) > 1000) = false := decide_eq_false hb
      rw [hd, sheetpilelaw08_KeyJoins.j0, if_neg (by decide), key_Count_f a (by omega), key_Count_f b (by omega)]
      simp only [Option.bind_some]
      have done1 : ∀ x y : Int, sheetpilelaw08_KeyJoins.j1 79 (bs a) (bs b) x y true = some true := by
        intro x y; rw [sheetpilelaw08_KeyJoins.j1, if_pos rfl, live08 78 (by decide)]; rfl
      cases hra : runesL a with
      | none => rw [runesR_none hra]; simp only [Bool.false_eq_true, if_false]; exact done1 _ _
      | some xs =>
        rw [runesR_some hra, if_pos rfl]
        cases hrb : runesL b with
        | none => rw [runesR_none hrb]; exact done1 ((intsOf xs).length : Int) 0
        | some ys =>
          rw [runesR_some hrb]
          have hab := runesL_append a b xs hra
          rw [hrb] at hab
          have hxl := runesL_length hra
          have hyl := runesL_length hrb
          have lx : (intsOf xs).length = xs.length := by simp [intsOf]
          have ly : (intsOf ys).length = ys.length := by simp [intsOf]
          have hw : wrap64 (((intsOf xs).length : Int) + ((intsOf ys).length : Int)) = ((xs.length + ys.length : Nat) : Int) := by
            rw [lx, ly, wrap_id (by omega) (by omega)]; omega
          show sheetpilelaw08_KeyJoins.j1 79 (bs a) (bs b) ((intsOf xs).length : Int) ((intsOf ys).length : Int) false = some true
          rw [sheetpilelaw08_KeyJoins.j1, if_neg (by decide), bs_size, bs_size, if_pos (by omega), bs_append, key_Count_f _ (by rw [List.length_append]; omega), key_Check_f 78 (by decide) _ (by rw [List.length_append]; omega), key_Check_f 78 (by decide) _ (by omega), key_Check_f 78 (by decide) _ (by omega), live08 78 (by decide), runesR_some hra, runesR_some hrb, runesR_some (l := a ++ b) (xs := xs ++ ys) (by rw [hab]; rfl), hw]
          simp only [Option.bind_some, if_true]
          have hl : ((intsOf (xs ++ ys)).length : Int) = ((xs.length + ys.length : Nat) : Int) := by simp [intsOf]
          rw [if_pos hl]
          split
          · rename_i c1
            split
            · rename_i c2
              have k1 := (checkR_zero _).1 c1
              have k2 := (checkR_zero _).1 c2
              have k3 := checkR_zero (intsOf (xs ++ ys))
              rw [intsOf_append, List.any_append, k1.2.2, k2.2.2] at k3
              have k4 : (checkR (intsOf (xs ++ ys), true) == 0) = decide (((xs.length + ys.length : Nat) : Int) ≤ 64) := by
                rw [Bool.eq_iff_iff, beq_iff_eq, decide_eq_true_iff, intsOf_append, k3]
                simp only [ne_eq, List.append_eq_nil_iff, List.length_append, lx, ly]
                constructor
                · intro h; omega
                · intro h; exact ⟨fun e => k1.1 e.1, by omega, rfl⟩
              rw [k4, bne_self_eq_false, if_neg (by decide)]
            · rfl
          · rfl
end Go.Proofs.Ytdkaokjnfkfngaa.Pure
