/- Plain: the first rune of a text and the runes of a text, and what the model's decoder makes of a place in a text. No program in sight. -/
import Derived.Laws.RangeAny
import Derived.Test.YtggngbbkachpaaaBs
namespace Go.Proofs.Ytggngbbkachpaaa.RunesPlain
open Go Go.Proofs Go.Proofs.Ytggngbbkachpaaa.Bs
def gN (l : List UInt8) (k : Nat) : Nat := (l.getD k 0).toNat
def cN (l : List UInt8) (k : Nat) : Bool := decide (k < l.length) && gN l k / 64 == 2
def okR (r : Nat) : Prop := r < 55296 ∨ (57344 ≤ r ∧ r ≤ 1114111)
instance (r : Nat) : Decidable (okR r) := by unfold okR; infer_instance
def dec1 (l : List UInt8) : Option (Nat × Nat) :=
  if gN l 0 < 128 then some (gN l 0, 1)
  else if (gN l 0 / 32 == 6 && cN l 1) = true then
    if 128 ≤ gN l 0 % 32 * 64 + gN l 1 % 64 then some (gN l 0 % 32 * 64 + gN l 1 % 64, 2) else none
  else if (gN l 0 / 16 == 14 && cN l 1 && cN l 2) = true then
    if 2048 ≤ gN l 0 % 16 * 4096 + gN l 1 % 64 * 64 + gN l 2 % 64 ∧ okR (gN l 0 % 16 * 4096 + gN l 1 % 64 * 64 + gN l 2 % 64) then some (gN l 0 % 16 * 4096 + gN l 1 % 64 * 64 + gN l 2 % 64, 3) else none
  else if (gN l 0 / 8 == 30 && cN l 1 && cN l 2 && cN l 3) = true then
    if 65536 ≤ gN l 0 % 8 * 262144 + gN l 1 % 64 * 4096 + gN l 2 % 64 * 64 + gN l 3 % 64 ∧ okR (gN l 0 % 8 * 262144 + gN l 1 % 64 * 4096 + gN l 2 % 64 * 64 + gN l 3 % 64) then some (gN l 0 % 8 * 262144 + gN l 1 % 64 * 4096 + gN l 2 % 64 * 64 + gN l 3 % 64, 4) else none
  else none
theorem gN_lt (l : List UInt8) (k : Nat) : gN l k < 256 := (l.getD k 0).toNat_lt
theorem cN_spec {l : List UInt8} {k : Nat} : cN l k = true ↔ k < l.length ∧ gN l k / 64 = 2 := by simp [cN]
theorem dec1_some {l : List UInt8} {x n : Nat} (h : dec1 l = some (x, n)) (h0 : l ≠ []) : 1 ≤ n ∧ n ≤ l.length ∧ x ≤ 1114111 := by
  have hl : 0 < l.length := List.length_pos_iff.2 h0
  have g0 := gN_lt l 0
  unfold dec1 at h
  split at h
  · cases h; omega
  · split at h
    · rename_i h1
      simp only [Bool.and_eq_true, cN_spec] at h1
      split at h
      · cases h; omega
      · cases h
    · split at h
      · rename_i h1
        simp only [Bool.and_eq_true, cN_spec] at h1
        split at h
        · cases h; omega
        · cases h
      · split at h
        · rename_i h1
          simp only [Bool.and_eq_true, cN_spec] at h1
          split at h
          · rename_i h2
            cases h; unfold okR at h2; omega
          · cases h
        · cases h
theorem gN_append {l m : List UInt8} {k : Nat} (h : k < l.length) : gN (l ++ m) k = gN l k := by
  unfold gN; rw [List.getD_eq_getElem?_getD, List.getD_eq_getElem?_getD, List.getElem?_append_left h]
theorem cN_append {l m : List UInt8} {k : Nat} (h : cN l k = true) : cN (l ++ m) k = true := by
  rw [cN_spec] at h ⊢
  rw [gN_append h.1]; simp; omega
theorem dec1_append {l m : List UInt8} {x n : Nat} (h : dec1 l = some (x, n)) (h0 : l ≠ []) : dec1 (l ++ m) = some (x, n) := by
  have hl : 0 < l.length := List.length_pos_iff.2 h0
  have e0 := gN_append (m := m) hl
  unfold dec1 at h ⊢
  rw [e0]
  split at h
  · rename_i c; rw [if_pos c]; exact h
  · rename_i c; rw [if_neg c]
    split at h
    · rename_i h1
      simp only [Bool.and_eq_true, cN_spec] at h1
      have e1 := gN_append (m := m) h1.2.1
      rw [if_pos (by simp only [Bool.and_eq_true]; exact ⟨h1.1, cN_append (cN_spec.2 h1.2)⟩), e1]; exact h
    · rename_i c1
      split at h
      · rename_i h1
        simp only [Bool.and_eq_true, cN_spec] at h1
        have e1 := gN_append (m := m) h1.1.2.1
        have e2 := gN_append (m := m) h1.2.1
        rw [if_neg (by simp only [Bool.and_eq_true, beq_iff_eq] at h1 ⊢; omega), if_pos (by simp only [Bool.and_eq_true]; exact ⟨⟨h1.1.1, cN_append (cN_spec.2 h1.1.2)⟩, cN_append (cN_spec.2 h1.2)⟩), e1, e2]; exact h
      · rename_i c2
        split at h
        · rename_i h1
          simp only [Bool.and_eq_true, cN_spec] at h1
          have e1 := gN_append (m := m) h1.1.1.2.1
          have e2 := gN_append (m := m) h1.1.2.1
          have e3 := gN_append (m := m) h1.2.1
          rw [if_neg (by simp only [Bool.and_eq_true, beq_iff_eq] at h1 ⊢; omega), if_neg (by simp only [Bool.and_eq_true, beq_iff_eq] at h1 ⊢; omega), if_pos (by simp only [Bool.and_eq_true]; exact ⟨⟨⟨h1.1.1.1, cN_append (cN_spec.2 h1.1.1.2)⟩, cN_append (cN_spec.2 h1.1.2)⟩, cN_append (cN_spec.2 h1.2)⟩), e1, e2, e3]; exact h
        · cases h
/-- The runes of a text, if it is made of them alone. -/
def runesL : List UInt8 → Option (List Nat)
  | [] => some []
  | c :: t => match dec1 (c :: t) with
    | none => none
    | some (x, n) => (runesL (t.drop (n - 1))).map (x :: ·)
termination_by l => l.length
decreasing_by simp; omega
theorem runesL_nil : runesL [] = some [] := by rw [runesL]
theorem runesL_none {l : List UInt8} (h0 : l ≠ []) (h : dec1 l = none) : runesL l = none := by
  cases l with
  | nil => exact absurd rfl h0
  | cons c t => rw [runesL, h]
theorem runesL_some {l : List UInt8} {x n : Nat} (h0 : l ≠ []) (h : dec1 l = some (x, n)) : runesL l = (runesL (l.drop n)).map (x :: ·) := by
  cases l with
  | nil => exact absurd rfl h0
  | cons c t =>
    have h1 := (dec1_some h h0).1
    rw [runesL, h]
    simp only
    congr 2
    obtain ⟨k, rfl⟩ : ∃ k, n = k + 1 := ⟨n - 1, by omega⟩
    simp
theorem runesL_append (l m : List UInt8) (xs : List Nat) (h : runesL l = some xs) : runesL (l ++ m) = (runesL m).map (xs ++ ·) := by
  generalize hk : l.length = k
  induction k using Nat.strongRecOn generalizing l xs with
  | _ k ih =>
    by_cases h0 : l = []
    · subst h0
      rw [runesL_nil] at h; cases h
      simp
    · have h0' : l ++ m ≠ [] := by simp [h0]
      cases hd : dec1 l with
      | none => rw [runesL_none h0 hd] at h; cases h
      | some p =>
        obtain ⟨x, n⟩ := p
        rw [runesL_some h0 hd] at h
        obtain ⟨ys, hy, rfl⟩ := Option.map_eq_some_iff.1 h
        have hn := dec1_some hd h0
        rw [runesL_some h0' (dec1_append hd h0), List.drop_append_of_le_length hn.2.1, ih _ (by rw [List.length_drop]; omega) _ _ hy rfl]
        cases runesL m <;> simp
theorem runesL_length {l : List UInt8} {xs : List Nat} (h : runesL l = some xs) : xs.length ≤ l.length := by
  generalize hk : l.length = k
  induction k using Nat.strongRecOn generalizing l xs with
  | _ k ih =>
    by_cases h0 : l = []
    · subst h0
      rw [runesL_nil] at h; cases h; simp
    · cases hd : dec1 l with
      | none => rw [runesL_none h0 hd] at h; cases h
      | some p =>
        obtain ⟨x, n⟩ := p
        rw [runesL_some h0 hd] at h
        obtain ⟨ys, hy, rfl⟩ := Option.map_eq_some_iff.1 h
        have hn := dec1_some hd h0
        have := ih _ (by rw [List.length_drop]; omega) hy rfl
        rw [List.length_drop] at this
        simp; omega
theorem get_bs (s : List UInt8) (i : Nat) : ((bs s).get! i).toNat = gN s i := by
  unfold gN
  congr 1
  show (bs s).data[i]! = _
  rw [List.getD_eq_getElem?_getD]
  simp [bs, getElem!_def]
  cases s[i]? <;> rfl
theorem gN_drop (s : List UInt8) (p k : Nat) : gN s (p + k) = gN (s.drop p) k := by
  unfold gN; simp [List.getD_eq_getElem?_getD]
theorem cN_drop (s : List UInt8) (p k : Nat) : (decide (p + k < s.length) && gN s (p + k) / 64 == 2) = cN (s.drop p) k := by
  unfold cN; rw [gN_drop, List.length_drop]
  congr 1
  simp; omega
theorem okR_valid (c : Nat) : Utf8.valid (c : Int) = decide (okR c) := by
  rw [Bool.eq_iff_iff, decide_eq_true_iff]
  unfold Utf8.valid okR
  simp only [Bool.or_eq_true, Bool.and_eq_true, decide_eq_true_eq]
  omega
theorem decode_bs (s : List UInt8) (pos : Nat) : Utf8.decode (bs s) pos = (dec1 (s.drop pos)).getD (65533, 1) := by
  unfold Utf8.decode dec1
  simp only [get_bs, bs_size, cN_drop]
  simp only [gN_drop, okR_valid]
  repeat' split
  all_goals simp_all [Utf8.runeError]
theorem three {l : List UInt8} (h : 2 < l.length) : ∃ a b c r, l = a :: b :: c :: r := by
  cases l with
  | nil => simp at h
  | cons a l =>
    cases l with
    | nil => simp at h
    | cons b l =>
      cases l with
      | nil => simp at h
      | cons c l => exact ⟨a, b, c, l, rfl⟩
theorem bad_first {l : List UInt8} {n : Nat} (h : dec1 l = some (65533, n)) : 3 ≤ l.length ∧ l.take 3 = [239, 191, 189] := by
  have g0 := gN_lt l 0
  have g1 := gN_lt l 1
  have g2 := gN_lt l 2
  have g3 := gN_lt l 3
  unfold dec1 at h
  split at h
  · simp at h; omega
  · split at h
    · split at h
      · simp at h; omega
      · cases h
    · split at h
      · rename_i h1
        simp only [Bool.and_eq_true, cN_spec, beq_iff_eq] at h1
        split at h
        · simp only [Option.some.injEq, Prod.mk.injEq] at h
          have e0 : gN l 0 = 239 := by omega
          have e1 : gN l 1 = 191 := by omega
          have e2 : gN l 2 = 189 := by omega
          refine ⟨by omega, ?_⟩
          have hl3 := h1.2.1
          clear h1 g0 g1 g2 g3 h
          obtain ⟨a, b, c, r, rfl⟩ := three hl3
          have ha : a = 239 := UInt8.toNat_inj.1 e0
          have hb : b = 191 := UInt8.toNat_inj.1 e1
          have hc : c = 189 := UInt8.toNat_inj.1 e2
          rw [ha, hb, hc]; rfl
        · cases h
      · split at h
        · split at h
          · rename_i h2
            simp only [Option.some.injEq, Prod.mk.injEq] at h
            omega
          · cases h
        · cases h
theorem bad_not {l : List UInt8} (h : dec1 l = none) : l.take 3 ≠ [239, 191, 189] := by
  intro e
  match l, e with
  | a :: b :: c :: r, e =>
    simp at e
    obtain ⟨rfl, rfl, rfl⟩ := e
    revert h
    have : dec1 (239 :: 191 :: 189 :: r) = some (65533, 3) := by
      simp [dec1, gN, cN, okR]
    rw [this]; simp
end Go.Proofs.Ytggngbbkachpaaa.RunesPlain
