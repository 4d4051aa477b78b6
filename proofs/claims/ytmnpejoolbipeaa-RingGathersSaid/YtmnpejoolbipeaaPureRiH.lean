/- ring.Gather: the intents of the sectors, slot by slot. -/
import Derived.Test.YtmnpejoolbipeaaPureRiF
import Derived.Test.YtmnpejoolbipeaaPRix8
import Derived.Test.YtmnpejoolbipeaaPRix6
namespace Go.Proofs.Ytmnpejoolbipeaa.Pure
set_option linter.unusedVariables false
set_option linter.unusedSimpArgs false
open Go.RowKit Go.Proofs.Ytmnpejoolbipeaa.PRi Go.Proofs.Ytmnpejoolbipeaa.Given Go.Proofs.Ytmnpejoolbipeaa.Bs Go.Proofs.Ytmnpejoolbipeaa.WirePlain Go.Proofs.Ytmnpejoolbipeaa.KeyPlain Go.Proofs.Ytmnpejoolbipeaa.CrcPlain Go.Proofs.YtmnpejoolbipeaaW.PrintWords Go.Proofs.YtmnpejoolbipeaaW.PrintLast Go.Proofs.YtmnpejoolbipeaaW.PrintMore
/-- A layout that may be. -/
def OkC (a0 a1 a2 a3 a4 : Int) : Prop := 1 ≤ a0 ∧ 0 ≤ a1 ∧ a0 ≤ 255 ∧ a0 + a1 ≤ 255 ∧ a1 ≠ 0 ∧ 8 ≤ a2 ∧ a2 ≤ 1024 ∧ 1 ≤ a3 ∧ a3 ≤ 1000 ∧ 1 ≤ a4 ∧ a4 ≤ 16 ∧ wrap64 (a0 * a2) ≤ 4000
instance okCDec (a0 a1 a2 a3 a4 : Int) : Decidable (OkC a0 a1 a2 a3 a4) := by unfold OkC; infer_instance
theorem may_f (a0 a1 : Int) : gen_May.f a0 a1 = some (decide (1 ≤ a0 ∧ 0 ≤ a1 ∧ a0 ≤ 255 ∧ a0 + a1 ≤ 255)) := by
  unfold gen_May.f
  by_cases h1 : a0 ≥ 1
  · by_cases h2 : a1 ≥ 0
    · by_cases h3 : a0 ≤ 255
      · rw [if_pos h1, if_pos h2, if_pos h3, wrap_id (by omega) (by omega)]
        congr 1
        by_cases h4 : a1 ≤ 255 - a0
        · rw [decide_eq_true h4, decide_eq_true (by omega)]
        · rw [decide_eq_false h4, decide_eq_false (by omega)]
      · rw [if_pos h1, if_pos h2, if_neg h3, decide_eq_false (by omega)]
    · rw [if_pos h1, if_neg h2, decide_eq_false (by omega)]
  · rw [if_neg h1, decide_eq_false (by omega)]
theorem within_f (a b c : Int) : conf_within.f a b c = some (decide (b ≤ a ∧ a ≤ c)) := by
  unfold conf_within.f
  by_cases h1 : a ≥ b
  · rw [if_pos h1]
    congr 1
    by_cases h2 : a ≤ c
    · rw [decide_eq_true h2, decide_eq_true ⟨h1, h2⟩]
    · rw [decide_eq_false h2, decide_eq_false (fun h => h2 h.2)]
  · rw [if_neg h1, decide_eq_false (fun h => h1 h.1)]
theorem check_f (a0 a1 a2 a3 a4 : Int) : conf_Check.f a0 a1 a2 a3 a4 = some (if OkC a0 a1 a2 a3 a4 then 0 else 1) := by
  unfold conf_Check.f
  rw [may_f, Option.bind_some, within_f, within_f, within_f]
  simp only [Option.bind_some]
  have no : ∀ h : ¬ OkC a0 a1 a2 a3 a4, some (1 : Int) = some (if OkC a0 a1 a2 a3 a4 then 0 else 1) := fun h => by rw [if_neg h]
  by_cases h1 : 1 ≤ a0 ∧ 0 ≤ a1 ∧ a0 ≤ 255 ∧ a0 + a1 ≤ 255
  · rw [if_pos (decide_eq_true h1)]
    by_cases h2 : a1 = 0
    · rw [if_pos h2]; exact no (fun h => h.2.2.2.2.1 h2)
    · rw [if_neg h2]
      by_cases h3 : 8 ≤ a2 ∧ a2 ≤ 1024
      · rw [if_pos (decide_eq_true h3)]
        by_cases h4 : 1 ≤ a3 ∧ a3 ≤ 1000
        · rw [if_pos (decide_eq_true h4)]
          by_cases h5 : 1 ≤ a4 ∧ a4 ≤ 16
          · rw [if_pos (decide_eq_true h5)]
            by_cases h6 : wrap64 (a0 * a2) > 4000
            · rw [if_pos h6]; exact no (fun h => by have := h.2.2.2.2.2.2.2.2.2.2.2; omega)
            · rw [if_neg h6, if_pos ⟨h1.1, h1.2.1, h1.2.2.1, h1.2.2.2, h2, h3.1, h3.2, h4.1, h4.2, h5.1, h5.2, by omega⟩]
          · rw [if_neg (by simpa using h5)]; exact no (fun h => h5 ⟨h.2.2.2.2.2.2.2.2.2.1, h.2.2.2.2.2.2.2.2.2.2.1⟩)
        · rw [if_neg (by simpa using h4)]; exact no (fun h => h4 ⟨h.2.2.2.2.2.2.2.1, h.2.2.2.2.2.2.2.2.1⟩)
      · rw [if_neg (by simpa using h3)]; exact no (fun h => h3 ⟨h.2.2.2.2.2.1, h.2.2.2.2.2.2.1⟩)
  · rw [if_neg (by simpa using h1)]; exact no (fun h => h1 ⟨h.1, h.2.1, h.2.2.1, h.2.2.2.1⟩)
def slotV (a4 s : Int) : Int := if s < 0 then -1 else wrap64 (1 + Int.tmod s a4)
theorem slot_f (a0 a1 a2 a3 a4 s : Int) (h : OkC a0 a1 a2 a3 a4) : conf_Slot.f a0 a1 a2 a3 a4 s = some (slotV a4 s) := by
  have hc : conf_of.f a0 a1 a2 a3 a4 (-1) = some (-1) := by unfold conf_of.f; rw [check_f, if_pos h, Option.bind_some, if_pos rfl]
  unfold conf_Slot.f slotV
  rw [check_f, if_pos h, Option.bind_some, if_pos rfl, hc]
  by_cases h1 : s < 0
  · rw [if_pos h1, if_pos h1]; rfl
  · rw [if_neg h1, if_neg h1, if_neg (by have := h.2.2.2.2.2.2.2.2.2.1; omega)]
theorem slot_place (a4 : Int) (i : Nat) (h : (i : Int) < a4) (h16 : a4 ≤ 16) : slotV a4 (i : Int) = ((i + 1 : Nat) : Int) := by
  unfold slotV
  rw [if_neg (by omega), Int.tmod_eq_emod_of_nonneg (by omega), Int.emod_eq_of_lt (by omega) h, wrap_id (by omega) (by omega)]
  omega
theorem stripe_f (a0 a1 a2 a3 a4 s : Int) (h : OkC a0 a1 a2 a3 a4) : ∃ v, conf_Stripe.f a0 a1 a2 a3 a4 s = some v ∧ (v ≥ 0 ↔ 0 ≤ s ∧ s < a3) := by
  have hc : ∀ v, conf_of.f a0 a1 a2 a3 a4 v = some v := fun v => by unfold conf_of.f; rw [check_f, if_pos h, Option.bind_some, if_pos rfl]
  have h3 := h.2.2.2.2.2.2.2.1
  have h4 := h.2.2.2.2.2.2.2.2.1
  have h5 := h.2.2.2.2.2.2.2.2.2.1
  have h6 := h.2.2.2.2.2.2.2.2.2.2.1
  unfold conf_Stripe.f
  rw [within_f, Option.bind_some, hc, hc, wrap_id (a := a3 - 1) (by omega) (by omega)]
  by_cases hs : 0 ≤ s ∧ s ≤ a3 - 1
  · rw [if_pos (decide_eq_true hs)]
    refine ⟨_, rfl, ?_⟩
    rw [wrap_id (a := 1 + a4) (by omega) (by omega), wrap_id (by omega) (by omega)]
    omega
  · rw [if_neg (by simpa using hs)]
    exact ⟨_, rfl, by omega⟩
theorem cutL_nonneg (m : List UInt8) (s : Int) : 0 ≤ (cutL m s).1 := by
  unfold cutL
  split
  · exact Int.le_refl _
  · split
    · exact Int.le_refl _
    · exact Int.natCast_nonneg _
theorem readL_nonneg (l : List UInt8) : 0 ≤ (readL l).2.1 := by
  unfold readL
  split
  · split
    · exact cutL_nonneg _ _
    · exact Int.le_refl _
  · exact Int.le_refl _
/-- What a slot's sector has. -/
def itemL (a3 a4 a d : Int) (s : List UInt8) (p : Nat) : Option S44 :=
  if (ownL s a d (p : Int)).2.2.2.2.2 = 0 ∧ (readL (ownL s a d (p : Int)).2.2.2.2.1).2.2.2 = 0 ∧ slotV a4 (readL (ownL s a d (p : Int)).2.2.2.2.1).1 = (p : Int) ∧ (readL (ownL s a d (p : Int)).2.2.2.2.1).2.1 < a3 then
    some ⟨(readL (ownL s a d (p : Int)).2.2.2.2.1).1, (readL (ownL s a d (p : Int)).2.2.2.2.1).2.1, bs (readL (ownL s a d (p : Int)).2.2.2.2.1).2.2.1⟩ else none
def itemS (a3 a4 a d : Int) (ss : List ByteArray) (i : Nat) : Option S44 := itemL a3 a4 a d (ss.getD (i + 1) ⟨#[]⟩).data.toList (i + 1)
/-- How many slots are looked at. -/
def slotsN (a4 : Int) (ss : List ByteArray) : Nat := min a4.toNat (ss.length - 1)
def gathL (a3 a4 a d : Int) (ss : List ByteArray) (n : Nat) : List S44 := (List.range n).filterMap (itemS a3 a4 a d ss)
theorem gathL_succ (a3 a4 a d : Int) (ss : List ByteArray) (n : Nat) : gathL a3 a4 a d ss (n + 1) = gathL a3 a4 a d ss n ++ (itemS a3 a4 a d ss n).toList := by
  unfold gathL
  rw [List.range_succ, List.filterMap_append]
  congr 1
theorem gathL_len (a3 a4 a d : Int) (ss : List ByteArray) (n : Nat) : (gathL a3 a4 a d ss n).length ≤ n := by
  unfold gathL
  exact Nat.le_trans (List.length_filterMap_le _ _) (by simp)
theorem rdOf_get (ss : List ByteArray) (i : Nat) : rdOf ByteArray.empty ss (i : Int) = bs (ss.getD i ⟨#[]⟩).data.toList := by
  unfold rdOf
  rw [Int.toNat_natCast, ← bs_of]; rfl
theorem own_small (l : List UInt8) (a d p : Int) : (ownL l a d p).2.2.2.2.1.length ≤ l.length := by
  have ht : ∀ m : List UInt8, (takeL m).1.length ≤ m.length := fun m => by
    unfold takeL
    split
    · simp
    · split
      · simp
      · simp; omega
  have hu : ∀ c1 c2 c3 c4 t, (openU l c1 c2 c3 c4 t).2.2.2.2.1.length ≤ t.1.length := fun c1 c2 c3 c4 t => by
    unfold openU
    split
    · split
      · split
        · exact Nat.le_refl _
        · exact Nat.zero_le _
      · exact Nat.zero_le _
    · exact Nat.zero_le _
  have ho : (openL l).2.2.2.2.1.length ≤ l.length := by
    unfold openL
    split
    · exact Nat.zero_le _
    · split
      · unfold openV
        refine Nat.le_trans (hu _ _ _ _ _) (Nat.le_trans (ht _) ?_)
        have h1 := cut_len (l.drop 3) 4
        have h2 := cut_len (cutL (l.drop 3) 4).2.1 2
        have h3 := cut_len (cutL (cutL (l.drop 3) 4).2.1 2).2.1 4
        have h4 := cut_len (cutL (cutL (cutL (l.drop 3) 4).2.1 2).2.1 4).2.1 7
        have h5 : (l.drop 3).length ≤ l.length := by simp
        omega
      · exact Nat.zero_le _
  unfold ownL
  split
  · split
    · exact ho
    · exact Nat.zero_le _
  · exact Nat.zero_le _
set_option maxHeartbeats 1000000 in
theorem gather_loop (a0 a1 a2 a3 a4 : Int) (hc : OkC a0 a1 a2 a3 a4) (a d : Int) (ss : List ByteArray) (hs : ss.length ≤ 100000) (hz : ∀ s ∈ ss, s.size ≤ 1000000) : ∀ (m k i : Nat), i + m = slotsN a4 ss → m + 3 ≤ k →
    ring_Gather.l0 k a d ss (gathL a3 a4 a d ss i) a4 (i : Int) a0 a1 a2 a3 a4 = some (gathL a3 a4 a d ss (slotsN a4 ss))
  | 0, k, i, h, hk => by
    obtain ⟨k, rfl⟩ : ∃ k', k = k' + 1 := ⟨k - 1, by omega⟩
    have h5 := hc.2.2.2.2.2.2.2.2.2.1
    have h6 := hc.2.2.2.2.2.2.2.2.2.2.1
    have hi : i = slotsN a4 ss := by omega
    rw [ring_Gather.l0, ← hi]
    by_cases c : (i : Int) < a4
    · rw [if_pos c, slot_f a0 a1 a2 a3 a4 _ hc, Option.bind_some, slot_place a4 i c h6, if_pos (by unfold slotsN at hi; omega)]
    · rw [if_neg c]
  | m + 1, k, i, h, hk => by
    obtain ⟨k, rfl⟩ : ∃ k', k = k' + 1 + 1 := ⟨k - 2, by omega⟩
    have h5 := hc.2.2.2.2.2.2.2.2.2.1
    have h6 := hc.2.2.2.2.2.2.2.2.2.2.1
    have hin : i < a4.toNat ∧ i + 1 < ss.length := by unfold slotsN at h; omega
    have c : (i : Int) < a4 := by omega
    have hl := gathL_len a3 a4 a d ss i
    have ih := gather_loop a0 a1 a2 a3 a4 hc a d ss hs hz m (k + 1) (i + 1) (by omega) (by omega)
    rw [gathL_succ] at ih
    have hsz : (ss.getD (i + 1) ⟨#[]⟩).data.toList.length ≤ 1000000 := by
      rw [data_length, List.getD_eq_getElem?_getD, List.getElem?_eq_getElem hin.2]
      exact hz _ (List.getElem_mem hin.2)
    rw [ring_Gather.l0, if_pos c, slot_f a0 a1 a2 a3 a4 _ hc, Option.bind_some, slot_place a4 i c h6, if_neg (by omega), if_pos (by omega), if_pos (by omega), rdOf_get, block_Own_f k _ (by omega), Option.bind_some, wsucc i (by omega)]
    unfold itemS itemL at ih
    have hos := own_small (ss.getD (i + 1) ⟨#[]⟩).data.toList a d ((i + 1 : Nat) : Int)
    generalize ownL (ss.getD (i + 1) ⟨#[]⟩).data.toList a d ((i + 1 : Nat) : Int) = o at *
    have hnn := readL_nonneg o.2.2.2.2.1
    by_cases e1 : o.2.2.2.2.2 = 0
    · have e1' : (six o).2.2.2.2.2 = 0 := e1
      rw [if_pos e1']
      show ((intent_Read.f (bs o.2.2.2.2.1)).bind _) = _
      rw [intent_Read_f _ (by omega), Option.bind_some]
      generalize readL o.2.2.2.2.1 = r at *
      by_cases e2 : r.2.2.2 = 0
      · rw [if_pos e2, slot_f a0 a1 a2 a3 a4 _ hc, Option.bind_some]
        by_cases e3 : slotV a4 r.1 = ((i + 1 : Nat) : Int)
        · rw [if_pos e3]
          obtain ⟨v, hv, hvi⟩ := stripe_f a0 a1 a2 a3 a4 r.2.1 hc
          rw [hv, Option.bind_some]
          by_cases e4 : r.2.1 < a3
          · rw [if_pos (hvi.2 ⟨hnn, e4⟩), if_pos (by omega)]
            rw [if_pos ⟨e1, e2, e3, e4⟩] at ih
            exact ih
          · rw [if_neg (fun hh => e4 (hvi.1 hh).2)]
            rw [if_neg (fun hh => e4 hh.2.2.2)] at ih
            simpa using ih
        · rw [if_neg e3]
          rw [if_neg (fun hh => e3 hh.2.2.1)] at ih
          simpa using ih
      · rw [if_neg e2]
        rw [if_neg (fun hh => e2 hh.2.1)] at ih
        simpa using ih
    · have e1' : ¬ (six o).2.2.2.2.2 = 0 := e1
      rw [if_neg e1']
      rw [if_neg (fun hh => e1 hh.1)] at ih
      simpa using ih
theorem ring_Gather_f (a0 a1 a2 a3 a4 a d : Int) (ss : List ByteArray) (hs : ss.length ≤ 100000) (hz : ∀ s ∈ ss, s.size ≤ 1000000) (k : Nat) (hk : 30 ≤ k) : ring_Gather.f k a0 a1 a2 a3 a4 a d ss = some (if OkC a0 a1 a2 a3 a4 then gathL a3 a4 a d ss (slotsN a4 ss) else []) := by
  unfold ring_Gather.f
  rw [check_f, Option.bind_some]
  by_cases hc : OkC a0 a1 a2 a3 a4
  · rw [if_pos hc, if_pos rfl, if_pos hc]
    have h6 := hc.2.2.2.2.2.2.2.2.2.2.1
    exact gather_loop a0 a1 a2 a3 a4 hc a d ss hs hz (slotsN a4 ss) k 0 (by omega) (by unfold slotsN; omega)
  · rw [if_neg hc, if_neg (by decide), if_neg hc]
/-- Few and small. -/
theorem small_loop (ss : List ByteArray) (hl : ss.length ≤ 30) : ∀ (m k i : Nat), i + m = ss.length → m + 1 ≤ k → (∀ j, ∀ h : j < ss.length, j < i → ss[j].size ≤ 300) → ∃ b, sheetpileref03_Small.l0 k ss 300 (i : Int) = some b ∧ (b = true → ∀ s ∈ ss, s.size ≤ 300)
  | 0, k, i, h, hk, hb => by
    obtain ⟨k, rfl⟩ : ∃ k', k = k' + 1 := ⟨k - 1, by omega⟩
    exact ⟨true, by rw [sheetpileref03_Small.l0, if_neg (by omega)], fun _ s hs => by
      obtain ⟨j, hj, rfl⟩ := List.getElem_of_mem hs
      exact hb j hj (by omega)⟩
  | m + 1, k, i, h, hk, hb => by
    obtain ⟨k, rfl⟩ : ∃ k', k = k' + 1 := ⟨k - 1, by omega⟩
    have hlt : i < ss.length := by omega
    have hrd : rdOf ByteArray.empty ss (i : Int) = ss[i] := by
      unfold rdOf; rw [Int.toNat_natCast, List.getD_eq_getElem?_getD, List.getElem?_eq_getElem hlt]; rfl
    rw [sheetpileref03_Small.l0, if_pos (by omega), if_pos (by omega), hrd]
    by_cases c : (ss[i].size : Int) > 300
    · exact ⟨false, by rw [if_pos c], fun e => by cases e⟩
    · rw [if_neg c, wsucc i (by omega)]
      refine small_loop ss hl m k (i + 1) (by omega) (by omega) (fun j hj hji => ?_)
      by_cases e : j = i
      · subst e; omega
      · exact hb j hj (by omega)
theorem small_f (ss : List ByteArray) (k : Nat) (hk : 40 ≤ k) : ∃ b, sheetpileref03_Small.f k ss 30 300 = some b ∧ (b = true → ss.length ≤ 30 ∧ ∀ s ∈ ss, s.size ≤ 300) := by
  unfold sheetpileref03_Small.f
  by_cases c : (ss.length : Int) > 30
  · exact ⟨false, by rw [if_pos c], fun e => by cases e⟩
  · rw [if_neg c]
    obtain ⟨b, h1, h2⟩ := small_loop ss (by omega) ss.length k 0 (by omega) (by omega) (fun j _ h => by omega)
    exact ⟨b, h1, fun e => ⟨by omega, h2 e⟩⟩
end Go.Proofs.Ytmnpejoolbipeaa.Pure
