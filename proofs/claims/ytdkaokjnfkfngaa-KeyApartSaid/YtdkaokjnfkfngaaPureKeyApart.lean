/- Texts that are not the same are not quoted alike; a quoted text of plain bytes is itself. -/
import Derived.Test.YtdkaokjnfkfngaaPKeyx5
import Derived.Test.YtdkaokjnfkfngaaPureKeyBack
namespace Go.Proofs.Ytdkaokjnfkfngaa.Pure
set_option linter.unusedVariables false
set_option linter.unusedSimpArgs false
open Go.RowKit Go.Proofs.Ytdkaokjnfkfngaa.PKey Go.Proofs.Ytdkaokjnfkfngaa.Given Go.Proofs.Ytdkaokjnfkfngaa.Bs Go.Proofs.Ytdkaokjnfkfngaa.KeyPlain Go.Proofs.Ytdkaokjnfkfngaa.RunesPlain Go.Proofs.YtdkaokjnfkfngaaW.PrintWords Go.Proofs.YtdkaokjnfkfngaaW.PrintLast
def plainB (c : UInt8) : Bool := decide (32 < c.toNat) && decide (c.toNat < 127) && c.toNat != 37
theorem plainB_quote (c : UInt8) : plainB c = true ↔ quoteB c = [c] := by
  unfold plainB quoteB
  by_cases h : 32 < c.toNat ∧ c.toNat < 127 ∧ c.toNat ≠ 37
  · rw [if_pos h]; simp [h]
  · rw [if_neg h]
    simp only [Bool.and_eq_true, decide_eq_true_eq, bne_iff_ne]
    constructor
    · intro h2; exact absurd ⟨h2.1.1, h2.1.2, h2.2⟩ h
    · intro e; have := congrArg List.length e; simp at this
theorem flat_len_all (l : List UInt8) (h : (l.flatMap quoteB).length ≤ l.length) : l.all plainB = true := by
  have flat_ge : ∀ l : List UInt8, l.length ≤ (l.flatMap quoteB).length := by
    intro l
    induction l with
    | nil => simp
    | cons c l ih =>
      have : 1 ≤ (quoteB c).length := List.length_pos_iff.2 (quoteB_ne c)
      simp only [List.flatMap_cons, List.length_append, List.length_cons]; omega
  induction l with
  | nil => rfl
  | cons c l ih =>
    have h1 : 1 ≤ (quoteB c).length := List.length_pos_iff.2 (quoteB_ne c)
    have h2 := flat_ge l
    simp only [List.flatMap_cons, List.length_append, List.length_cons] at h
    rw [List.all_cons, ih (by omega), Bool.and_true, plainB_quote]
    unfold quoteB
    split
    · rfl
    · rename_i hc
      have : quoteB c = [37, hexB (c.toNat / 16), hexB (c.toNat % 16)] := if_neg hc
      have h3 : (quoteB c).length = 3 := by rw [this]; rfl
      omega
theorem flat_all (l : List UInt8) (h : l.all plainB = true) : l.flatMap quoteB = l := by
  induction l with
  | nil => rfl
  | cons c l ih =>
    rw [List.all_cons, Bool.and_eq_true] at h
    rw [List.flatMap_cons, (plainB_quote c).1 h.1, ih h.2]; rfl
theorem quote_self (l : List UInt8) : (quoteL l == l) = (l != [] && l.all plainB) := by
  rw [Bool.eq_iff_iff, beq_iff_eq, Bool.and_eq_true, bne_iff_ne]
  unfold quoteL
  by_cases h : l = []
  · subst h; simp
  · rw [if_neg h]
    constructor
    · intro e; exact ⟨h, flat_len_all l (by rw [e]; exact Nat.le_refl _)⟩
    · intro e; exact flat_all l e.2
theorem quote_inj (a b : List UInt8) : (quoteL a == quoteL b) = (a == b) := by
  rw [Bool.eq_iff_iff, beq_iff_eq, beq_iff_eq]
  constructor
  · intro e
    have h1 := unq_quote a
    rw [e, unq_quote b] at h1
    injection h1 with h2 _
    exact h2.symm
  · intro e; rw [e]
theorem all_drop (xs : List UInt8) (i : Nat) (h : i < xs.length) : (xs.drop i).all plainB = (plainB xs[i] && (xs.drop (i + 1)).all plainB) := by
  rw [List.drop_eq_getElem_cons h]; rfl
theorem apart_loop (a b : List UInt8) (ha : a.length ≤ 1000) (hb : b.length ≤ 1000) : ∀ d k i : Nat, i + d = a.length → d + 80 ≤ k → ∀ p : Bool,
    (p && (a.drop i).all plainB) = (a != [] && a.all plainB) → sheetpilelaw08_KeyApart.l0 k (bs a) (bs b) p (i : Int) = some true
  | 0, k, i, hi, hk, p, hp => by
    obtain ⟨k, rfl⟩ : ∃ j, k = j + 1 := ⟨k - 1, by omega⟩
    rw [List.drop_of_length_le (by omega), List.all_nil, Bool.and_true, ← quote_self] at hp
    rw [sheetpilelaw08_KeyApart.l0, bs_size, if_neg (by omega), key_Quote_f a (by omega), key_Quote_f b (by omega), live08 k (by omega)]
    simp only [Option.bind_some, bs_toList]
    rw [quote_inj, beq_self_eq_true, if_pos rfl, hp, beq_self_eq_true, if_pos rfl]
  | d + 1, k, i, hi, hk, p, hp => by
    obtain ⟨k, rfl⟩ : ∃ j, k = j + 1 := ⟨k - 1, by omega⟩
    have hlt : i < a.length := by omega
    rw [all_drop a i hlt] at hp
    have hw : wrap64 ((i : Int) + 1) = ((i + 1 : Nat) : Int) := wrap_succ i a.length hlt (by omega)
    have rec_ := apart_loop a b ha hb d k (i + 1) (by omega) (by omega)
    rw [sheetpilelaw08_KeyApart.l0, bs_size, if_pos (by omega), hw, bt_bs a i hlt]
    cases p with
    | false =>
      rw [if_neg (by decide)]
      exact rec_ false (by rw [← hp]; simp)
    | true =>
      rw [if_pos rfl, if_pos (by omega)]
      rw [Bool.true_and] at hp
      by_cases c1 : 32 < a[i].toNat
      · rw [if_pos (by omega)]
        by_cases c2 : a[i].toNat < 127
        · rw [if_pos (by omega)]
          refine rec_ _ ?_
          rw [← hp]
          congr 1
          unfold plainB
          simp only [c1, c2, decide_true, Bool.true_and]
          rw [Bool.eq_iff_iff, bne_iff_ne, bne_iff_ne]; omega
        · rw [if_neg (by omega)]
          refine rec_ _ ?_
          rw [← hp]; unfold plainB; simp [c2]
      · rw [if_neg (by omega)]
        refine rec_ _ ?_
        rw [← hp]; unfold plainB; simp [c1]
theorem KeyApart : sheetpilelaw08_KeyApart.Pure := by
  intro a0 a1 h0 h1
  obtain ⟨a, rfl⟩ := ex_bs a0
  obtain ⟨b, rfl⟩ := ex_bs a1
  obtain ⟨K, hK⟩ : ∃ K, K = 2000 := ⟨_, rfl⟩
  refine ⟨K + 1, ?_⟩
  unfold sheetpilelaw08_KeyApart.f
  rw [bs_size, bs_size]
  have done : sheetpilelaw08_KeyApart.j0 (K + 1) (bs a) (bs b) true = some true := by
    rw [sheetpilelaw08_KeyApart.j0, if_pos rfl, live08 K (by omega)]; rfl
  by_cases ha : (a.length : Int) > 1000
  · rw [if_pos ha, done]
  · rw [if_neg ha]
    by_cases hb : (b.length : Int) > 1000
    · have hd : decide ((b.length : Int) > 1000) = true := decide_eq_true hb
      rw [hd, done]
    · have hd : decide ((b.length : Int) > 1000) = false := decide_eq_false hb
      rw [hd, sheetpilelaw08_KeyApart.j0, if_neg (by decide), bs_toList]
      exact apart_loop a b (by omega) (by omega) a.length K 0 (by omega) (by omega) _ (by rw [List.drop_zero])
end Go.Proofs.Ytdkaokjnfkfngaa.Pure
