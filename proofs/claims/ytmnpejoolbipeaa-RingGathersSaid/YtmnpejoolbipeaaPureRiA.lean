/- Lists of intents: the loops of the document and of the laws. -/
import Derived.Test.YtmnpejoolbipeaaRingMap
import Derived.Test.YtmnpejoolbipeaaRingNext
import Derived.Test.YtmnpejoolbipeaaWirePlain
import Derived.Test.YtmnpejoolbipeaaKeyPlain
import Derived.Test.YtmnpejoolbipeaaCrcPlain
import Derived.Test.YtmnpejoolbipeaaPRix6
import Derived.Test.YtmnpejoolbipeaaPRix7
import Derived.Test.YtmnpejoolbipeaaPRix5
namespace Go.Proofs.Ytmnpejoolbipeaa.Pure
set_option linter.unusedVariables false
set_option linter.unusedSimpArgs false
open Go.RowKit Go.Proofs.Ytmnpejoolbipeaa.PRi Go.Proofs.Ytmnpejoolbipeaa.Given Go.Proofs.Ytmnpejoolbipeaa.Bs Go.Proofs.Ytmnpejoolbipeaa.WirePlain Go.Proofs.Ytmnpejoolbipeaa.KeyPlain Go.Proofs.Ytmnpejoolbipeaa.CrcPlain Go.Proofs.YtmnpejoolbipeaaW.PrintWords Go.Proofs.YtmnpejoolbipeaaW.PrintLast Go.Proofs.YtmnpejoolbipeaaW.PrintMore
def toI (x : S25) : S44 := ⟨x.f0, x.f1, x.f2⟩
def ofI (x : S44) : S25 := ⟨x.f0, x.f1, x.f2⟩
theorem of_to (x : S25) : ofI (toI x) = x := rfl
theorem to_of (x : S44) : toI (ofI x) = x := rfl
theorem rdI_get (l : List S44) (i : Nat) (h : i < l.length) : rd_T44 l (i : Int) = l[i] := by
  unfold rd_T44; rw [Int.toNat_natCast, List.getD_eq_getElem?_getD, List.getElem?_eq_getElem h]; rfl
theorem rdR_get (l : List S25) (i : Nat) (h : i < l.length) : rd_T25 l (i : Int) = l[i] := by
  unfold rd_T25; rw [Int.toNat_natCast, List.getD_eq_getElem?_getD, List.getElem?_eq_getElem h]; rfl
theorem wsucc (i : Nat) (h : i ≤ 1000000) : wrap64 ((i : Int) + 1) = ((i + 1 : Nat) : Int) := by
  rw [wrap_id (by omega) (by omega)]; omega
theorem own_loop (l : List S25) (hl : l.length ≤ 1000000) : ∀ (d k i : Nat), i + d = l.length → d + 1 ≤ k → sheetpilelaw15_own.l0 k l ((l.take i).map toI) (i : Int) = some (l.map toI)
  | 0, k + 1, i, h, _ => by
    rw [sheetpilelaw15_own.l0, if_neg (by omega), List.take_of_length_le (by omega)]
  | d + 1, k + 1, i, h, hk => by
    rw [sheetpilelaw15_own.l0, if_pos (by omega), if_pos (by omega), if_pos (by rw [List.length_map, List.length_take]; omega), wsucc i (by omega), rdR_get l i (by omega)]
    have e : (l.take i).map toI ++ [(⟨l[i].f0, l[i].f1, l[i].f2⟩ : S44)] = (l.take (i + 1)).map toI := by
      rw [List.take_succ_eq_append_getElem (by omega), List.map_append]; rfl
    rw [e]
    exact own_loop l hl d k (i + 1) (by omega) (by omega)
theorem own_f (l : List S25) (hl : l.length ≤ 1000000) (k : Nat) (hk : l.length + 1 ≤ k) : sheetpilelaw15_own.f k l = some (l.map toI) := own_loop l hl l.length k 0 (by omega) (by omega)
theorem told_loop (l : List S44) (hl : l.length ≤ 1000000) : ∀ (d k i : Nat), i + d = l.length → d + 1 ≤ k → sheetpilelaw15_told.l0 k l ((l.take i).map ofI) (i : Int) = some (l.map ofI)
  | 0, k + 1, i, h, _ => by
    rw [sheetpilelaw15_told.l0, if_neg (by omega), List.take_of_length_le (by omega)]
  | d + 1, k + 1, i, h, hk => by
    rw [sheetpilelaw15_told.l0, if_pos (by omega), if_pos (by omega), if_pos (by rw [List.length_map, List.length_take]; omega), wsucc i (by omega), rdI_get l i (by omega)]
    have e : (l.take i).map ofI ++ [(⟨l[i].f0, l[i].f1, l[i].f2⟩ : S25)] = (l.take (i + 1)).map ofI := by
      rw [List.take_succ_eq_append_getElem (by omega), List.map_append]; rfl
    rw [e]
    exact told_loop l hl d k (i + 1) (by omega) (by omega)
theorem told_f (l : List S44) (hl : l.length ≤ 1000000) (k : Nat) (hk : l.length + 1 ≤ k) : sheetpilelaw15_told.f k l = some (l.map ofI) := told_loop l hl l.length k 0 (by omega) (by omega)
theorem same_loop (l : List S25) (hl : l.length ≤ 1000000) : ∀ (d k i : Nat), i + d = l.length → d + 1 ≤ k → sheetpileref15_Same.l0 k l l (i : Int) = some true
  | 0, k + 1, i, h, _ => by rw [sheetpileref15_Same.l0, if_neg (by omega)]
  | d + 1, k + 1, i, h, hk => by
    rw [sheetpileref15_Same.l0, if_pos (by omega), if_pos (by omega), if_pos (by omega), if_neg (by simp), wsucc i (by omega)]
    exact same_loop l hl d k (i + 1) (by omega) (by omega)
theorem same_f (l : List S25) (hl : l.length ≤ 1000000) (k : Nat) (hk : l.length + 1 ≤ k) : sheetpileref15_Same.f k l l = some true := by
  unfold sheetpileref15_Same.f
  rw [if_pos rfl]
  exact same_loop l hl l.length k 0 (by omega) (by omega)
/-- The greatest number that next comes. -/
def nextF : List S44 → Int
  | [] => 0
  | x :: t => (maxF t x).f0 + 1
theorem maxF_snoc (x : S44) : ∀ (l : List S44) (m : S44), maxF (l ++ [x]) m = if cmpI x.f0 (maxF l m).f0 > 0 then x else maxF l m
  | [], m => rfl
  | y :: l, m => by show maxF (l ++ [x]) _ = _; rw [maxF_snoc x l]; rfl
theorem cmpI_pos (a b : Int) : cmpI a b > 0 ↔ b < a := by
  unfold cmpI
  by_cases h1 : a < b
  · simp [h1]; omega
  · by_cases h2 : b < a
    · simp [h1, h2]
    · simp [h1, h2]
theorem maxF_mem : ∀ (l : List S44) (m : S44), maxF l m = m ∨ maxF l m ∈ l
  | [], m => .inl rfl
  | y :: l, m => by
    show maxF l _ = m ∨ _
    rcases maxF_mem l (if cmpI y.f0 m.f0 > 0 then y else m) with h | h
    · by_cases c : cmpI y.f0 m.f0 > 0
      · rw [if_pos c] at h
        exact .inr (by show maxF l (if cmpI y.f0 m.f0 > 0 then y else m) ∈ y :: l; rw [if_pos c, h]; exact .head _)
      · exact .inl (by rw [if_neg c] at h ⊢; exact h)
    · exact .inr (List.mem_cons_of_mem _ h)
theorem nextF_snoc (l : List S44) (x : S44) (hne : l ≠ []) : nextF (l ++ [x]) = if x.f0 ≥ nextF l then x.f0 + 1 else nextF l := by
  cases l with
  | nil => exact absurd rfl hne
  | cons y t =>
    show (maxF (t ++ [x]) y).f0 + 1 = _
    rw [maxF_snoc]
    show _ = if x.f0 ≥ (maxF t y).f0 + 1 then x.f0 + 1 else (maxF t y).f0 + 1
    by_cases c : cmpI x.f0 (maxF t y).f0 > 0
    · rw [if_pos c, if_pos (by have := (cmpI_pos _ _).1 c; omega)]
    · rw [if_neg c, if_neg (fun h => c ((cmpI_pos _ _).2 (by omega)))]
theorem ring_Next_f (l : List S44) (hl : l.length ≤ 1000000) (hb : ∀ x ∈ l, -9223372036854775808 ≤ x.f0 ∧ x.f0 < 9223372036854775807) : ring_Next.f l = some (nextF l) := by
  unfold ring_Next.f
  rw [if_pos hl]
  cases l with
  | nil => rfl
  | cons x t =>
    show some (wrap64 ((maxF t x).f0 + 1)) = some ((maxF t x).f0 + 1)
    have h : maxF t x ∈ x :: t := by
      rcases maxF_mem t x with h | h
      · rw [h]; exact .head _
      · exact List.mem_cons_of_mem _ h
    have := hb _ h
    rw [wrap_id (by omega) (by omega)]
theorem next_loop (l : List S25) (hl : l.length ≤ 1000000) (hb : ∀ x ∈ l, -9223372036854775808 ≤ x.f0 ∧ x.f0 < 9223372036854775807) : ∀ (d k i : Nat), i + d = l.length → d + 1 ≤ k →
    sheetpileref15_Next.l0 k l (nextF ((l.take i).map toI)) (i : Int) = some (nextF (l.map toI))
  | 0, k + 1, i, h, _ => by rw [sheetpileref15_Next.l0, if_neg (by omega), List.take_of_length_le (by omega)]
  | d + 1, k + 1, i, h, hk => by
    have hlt : i < l.length := by omega
    have hbi := hb l[i] (List.getElem_mem hlt)
    have e : (l.take (i + 1)).map toI = (l.take i).map toI ++ [toI l[i]] := by
      rw [List.take_succ_eq_append_getElem hlt, List.map_append]; rfl
    have hw : wrap64 (l[i].f0 + 1) = l[i].f0 + 1 := wrap_id (by omega) (by omega)
    have ih := next_loop l hl hb d k (i + 1) (by omega) (by omega)
    rw [sheetpileref15_Next.l0, if_pos (by omega), wsucc i (by omega), rdR_get l i hlt, hw]
    by_cases h0 : (i : Int) = 0
    · obtain rfl : i = 0 := by omega
      rw [if_pos h0, if_pos (by omega)]
      rw [e] at ih
      exact ih
    · rw [if_neg h0, if_pos (by omega)]
      have hne : (l.take i).map toI ≠ [] := by
        intro hn
        have := congrArg List.length hn
        rw [List.length_map, List.length_take, List.length_nil] at this
        omega
      rw [e, nextF_snoc _ _ hne] at ih
      by_cases c : l[i].f0 ≥ nextF ((l.take i).map toI)
      · rw [if_pos c]
        have c' : (toI l[i]).f0 ≥ nextF ((l.take i).map toI) := c
        rw [if_pos c'] at ih
        exact ih
      · rw [if_neg c]
        have c' : ¬ (toI l[i]).f0 ≥ nextF ((l.take i).map toI) := c
        rw [if_neg c'] at ih
        exact ih
theorem ref_Next_f (l : List S25) (hl : l.length ≤ 1000000) (hb : ∀ x ∈ l, -9223372036854775808 ≤ x.f0 ∧ x.f0 < 9223372036854775807) (k : Nat) (hk : l.length + 1 ≤ k) : sheetpileref15_Next.f k l = some (nextF (l.map toI)) :=
  next_loop l hl hb l.length k 0 (by omega) (by omega)
end Go.Proofs.Ytmnpejoolbipeaa.Pure
