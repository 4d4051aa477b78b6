/- RingGathers: the intents of any disk's sectors; of at most 30 sectors of 300 bytes. -/
import Derived.Test.YtmnpejoolbipeaaPureRiG
import Derived.Test.YtmnpejoolbipeaaPureRiH
import Derived.Test.YtmnpejoolbipeaaPRix17
namespace Go.Proofs.Ytmnpejoolbipeaa.Pure
set_option linter.unusedVariables false
set_option linter.unusedSimpArgs false
open Go.RowKit Go.Proofs.Ytmnpejoolbipeaa.PRi Go.Proofs.Ytmnpejoolbipeaa.Given Go.Proofs.Ytmnpejoolbipeaa.Bs Go.Proofs.Ytmnpejoolbipeaa.WirePlain Go.Proofs.Ytmnpejoolbipeaa.KeyPlain Go.Proofs.Ytmnpejoolbipeaa.CrcPlain Go.Proofs.YtmnpejoolbipeaaW.PrintWords Go.Proofs.YtmnpejoolbipeaaW.PrintLast Go.Proofs.YtmnpejoolbipeaaW.PrintMore
theorem rmay_f (a0 a1 : Int) : sheetpileref04_May.f a0 a1 = some (decide (1 ≤ a0 ∧ 0 ≤ a1 ∧ a0 ≤ 255 ∧ a0 + a1 ≤ 255)) := by
  unfold sheetpileref04_May.f
  by_cases h1 : a0 ≥ 1
  · by_cases h2 : a1 ≥ 0
    · by_cases h3 : a0 ≤ 255
      · by_cases h4 : a1 ≤ 255
        · rw [if_pos h1, if_pos h2, if_pos h3, if_pos h4, wrap_id (by omega) (by omega)]
          congr 1
          by_cases h5 : a0 + a1 ≤ 255
          · rw [decide_eq_true h5, decide_eq_true (by omega)]
          · rw [decide_eq_false h5, decide_eq_false (by omega)]
        · rw [if_pos h1, if_pos h2, if_pos h3, if_neg h4, decide_eq_false (by omega)]
      · rw [if_pos h1, if_pos h2, if_neg h3, decide_eq_false (by omega)]
    · rw [if_pos h1, if_neg h2, decide_eq_false (by omega)]
  · rw [if_neg h1, decide_eq_false (by omega)]
theorem rcheck_f (a0 a1 a2 a3 a4 : Int) : sheetpileref12_Check.f a0 a1 a2 a3 a4 = some (if OkC a0 a1 a2 a3 a4 then 0 else 1) := by
  unfold sheetpileref12_Check.f
  rw [rmay_f, Option.bind_some]
  have no : ∀ h : ¬ OkC a0 a1 a2 a3 a4, some (1 : Int) = some (if OkC a0 a1 a2 a3 a4 then 0 else 1) := fun h => by rw [if_neg h]
  by_cases h1 : 1 ≤ a0 ∧ 0 ≤ a1 ∧ a0 ≤ 255 ∧ a0 + a1 ≤ 255
  · rw [if_pos (decide_eq_true h1)]
    by_cases h2 : a1 = 0
    · rw [if_pos h2]; exact no (fun h => h.2.2.2.2.1 h2)
    · rw [if_neg h2]
      by_cases h3 : a2 < 8
      · rw [if_pos h3]; exact no (fun h => by have := h.2.2.2.2.2.1; omega)
      · rw [if_neg h3]
        by_cases h4 : a2 > 1024
        · rw [if_pos h4]; exact no (fun h => by have := h.2.2.2.2.2.2.1; omega)
        · rw [if_neg h4]
          by_cases h5 : a3 < 1
          · rw [if_pos h5]; exact no (fun h => by have := h.2.2.2.2.2.2.2.1; omega)
          · rw [if_neg h5]
            by_cases h6 : a3 > 1000
            · rw [if_pos h6]; exact no (fun h => by have := h.2.2.2.2.2.2.2.2.1; omega)
            · rw [if_neg h6]
              by_cases h7 : a4 < 1
              · rw [if_pos h7]; exact no (fun h => by have := h.2.2.2.2.2.2.2.2.2.1; omega)
              · rw [if_neg h7]
                by_cases h8 : a4 > 16
                · rw [if_pos h8]; exact no (fun h => by have := h.2.2.2.2.2.2.2.2.2.2.1; omega)
                · rw [if_neg h8]
                  by_cases h9 : wrap64 (a0 * a2) > 4000
                  · rw [if_pos h9]; exact no (fun h => by have := h.2.2.2.2.2.2.2.2.2.2.2; omega)
                  · rw [if_neg h9, if_pos ⟨h1.1, h1.2.1, h1.2.2.1, h1.2.2.2, h2, by omega, by omega, by omega, by omega, by omega, by omega, by omega⟩]
  · rw [if_neg (by simpa using h1)]; exact no (fun h => h1 ⟨h.1, h.2.1, h.2.2.1, h.2.2.2.1⟩)
theorem rslot_f (a0 a1 a2 a3 a4 s : Int) (h : OkC a0 a1 a2 a3 a4) : sheetpileref12_Slot.f a0 a1 a2 a3 a4 s = some (slotV a4 s) := by
  unfold sheetpileref12_Slot.f slotV
  rw [rcheck_f, if_pos h, Option.bind_some, if_pos rfl]
  by_cases h1 : s < 0
  · rw [if_pos h1, if_pos h1]
  · rw [if_neg h1, if_neg h1, if_neg (by have := h.2.2.2.2.2.2.2.2.2.1; omega)]
set_option maxHeartbeats 1000000 in
theorem rgather_loop (a0 a1 a2 a3 a4 : Int) (hc : OkC a0 a1 a2 a3 a4) (a d : Int) (ss : List ByteArray) (hs : ss.length ≤ 100000) (hz : ∀ s ∈ ss, s.size ≤ 100000) : ∀ (m k i : Nat), i + m = slotsN a4 ss → 2 * m + 1000020 ≤ k →
    sheetpileref15_Gather.l0 k a d ss ((gathL a3 a4 a d ss i).map ofI) (i : Int) a0 a1 a2 a3 a4 = some ((gathL a3 a4 a d ss (slotsN a4 ss)).map ofI)
  | 0, k, i, h, hk => by
    obtain ⟨k, rfl⟩ : ∃ k', k = k' + 1 + 1 := ⟨k - 2, by omega⟩
    have h5 := hc.2.2.2.2.2.2.2.2.2.1
    have h6 := hc.2.2.2.2.2.2.2.2.2.2.1
    have hi : i = slotsN a4 ss := by omega
    rw [sheetpileref15_Gather.l0, ← hi]
    by_cases c : (i : Int) < a4
    · have hw : wrap64 (1 + (i : Int)) = ((i + 1 : Nat) : Int) := by rw [wrap_id (by omega) (by omega)]; omega
      rw [if_pos c, hw, decide_eq_false (by unfold slotsN at hi; omega), sheetpileref15_Gather.j1, if_neg (by decide)]
    · rw [if_neg c, sheetpileref15_Gather.j1, if_neg (by decide)]
  | m + 1, k, i, h, hk => by
    obtain ⟨k, rfl⟩ : ∃ k', k = k' + 1 + 1 := ⟨k - 2, by omega⟩
    have h5 := hc.2.2.2.2.2.2.2.2.2.1
    have h6 := hc.2.2.2.2.2.2.2.2.2.2.1
    have hin : i < a4.toNat ∧ i + 1 < ss.length := by unfold slotsN at h; omega
    have c : (i : Int) < a4 := by omega
    have hw : wrap64 (1 + (i : Int)) = ((i + 1 : Nat) : Int) := by rw [wrap_id (by omega) (by omega)]; omega
    have hl := gathL_len a3 a4 a d ss i
    have ih := rgather_loop a0 a1 a2 a3 a4 hc a d ss hs hz m k (i + 1) (by omega) (by omega)
    rw [gathL_succ, List.map_append] at ih
    have hsz : (ss.getD (i + 1) ⟨#[]⟩).data.toList.length ≤ 100000 := by
      rw [data_length, List.getD_eq_getElem?_getD, List.getElem?_eq_getElem hin.2]
      exact hz _ (List.getElem_mem hin.2)
    rw [sheetpileref15_Gather.l0, if_pos c, hw, decide_eq_true (by omega), sheetpileref15_Gather.j1, if_pos rfl, hw, if_pos (by omega), if_pos (by omega), rdOf_get, ref_Own_f k (by omega) _ hsz, Option.bind_some, wsucc i (by omega)]
    unfold itemS itemL at ih
    have hos := own_small (ss.getD (i + 1) ⟨#[]⟩).data.toList a d ((i + 1 : Nat) : Int)
    generalize ownL (ss.getD (i + 1) ⟨#[]⟩).data.toList a d ((i + 1 : Nat) : Int) = o at *
    by_cases e1 : o.2.2.2.2.2 = 0
    · have e1' : (six o).2.2.2.2.2 = 0 := e1
      rw [if_pos e1']
      show ((sheetpileref14_Read.f k (bs o.2.2.2.2.1)).bind _) = _
      rw [ref14_Read_f k (by omega) _ (by omega), Option.bind_some]
      generalize readL o.2.2.2.2.1 = r at *
      by_cases e2 : r.2.2.2 = 0
      · rw [if_pos e2, rslot_f a0 a1 a2 a3 a4 _ hc, Option.bind_some]
        by_cases e3 : slotV a4 r.1 = ((i + 1 : Nat) : Int)
        · rw [if_pos e3]
          by_cases e4 : r.2.1 < a3
          · rw [if_pos e4, if_pos (by rw [List.length_map]; omega)]
            rw [if_pos ⟨e1, e2, e3, e4⟩] at ih
            exact ih
          · rw [if_neg e4]
            rw [if_neg (fun hh => e4 hh.2.2.2)] at ih
            simpa using ih
        · rw [if_neg e3]
          rw [if_neg (fun hh => e3 hh.2.2.1)] at ih
          simpa using ih
      · rw [if_neg e2]
        rw [if_neg (fun hh => e2 hh.2.1)] at ih
        simpa using ih
    · have e1' : ¬ (six o).2.2.2.2.2 = 0 := e1
      rw [if_neg e1']
      rw [if_neg (fun hh => e1 hh.1)] at ih
      simpa using ih
theorem ref_Gather_f (a0 a1 a2 a3 a4 a d : Int) (ss : List ByteArray) (hs : ss.length ≤ 100000) (hz : ∀ s ∈ ss, s.size ≤ 100000) (k : Nat) (hk : 1000100 ≤ k) : sheetpileref15_Gather.f k a0 a1 a2 a3 a4 a d ss = some ((if OkC a0 a1 a2 a3 a4 then gathL a3 a4 a d ss (slotsN a4 ss) else []).map ofI) := by
  unfold sheetpileref15_Gather.f
  rw [rcheck_f, Option.bind_some]
  by_cases hc : OkC a0 a1 a2 a3 a4
  · rw [if_pos hc, if_pos rfl, if_pos hc]
    have h6 := hc.2.2.2.2.2.2.2.2.2.2.1
    exact rgather_loop a0 a1 a2 a3 a4 hc a d ss hs hz (slotsN a4 ss) k 0 (by omega) (by unfold slotsN; omega)
  · rw [if_neg hc, if_neg (by decide), if_neg hc]; rfl
theorem RingGathers (c0 c1 c2 c3 c4 ar di : Int) (ss : List ByteArray) (h0 : (((Lit.int .i64 c0).wf = true) ∧ ((Lit.int .i64 c1).wf = true) ∧ ((Lit.int .i64 c2).wf = true) ∧ ((Lit.int .i64 c3).wf = true) ∧ ((Lit.int .i64 c4).wf = true)) ∧ ((Lit.int .i64 ar).wf = true) ∧ ((Lit.int .i64 di).wf = true) ∧ (ss.length * 16 ≤ 140737488351232 ∧ ∀ z ∈ ss, z.size ≤ 140737488351232)) : ∃ k, sheetpilelaw15_RingGathers.f k c0 c1 c2 c3 c4 ar di ss = some true := by
  obtain ⟨k, hk⟩ : ∃ k, k = 1000200 := ⟨_, rfl⟩
  refine ⟨k, ?_⟩
  unfold sheetpilelaw15_RingGathers.f
  obtain ⟨b, hb, hbs⟩ := small_f ss k (by omega)
  rw [hb, Option.bind_some]
  cases b with
  | false => rw [if_neg (by decide), live_f, Option.bind_some]
  | true =>
    obtain ⟨hl, hz⟩ := hbs rfl
    rw [if_pos rfl, ring_Gather_f c0 c1 c2 c3 c4 ar di ss (by omega) (fun s hs => by have := hz s hs; omega) k (by omega), ref_Gather_f c0 c1 c2 c3 c4 ar di ss (by omega) (fun s hs => by have := hz s hs; omega) k (by omega)]
    have hg : (if OkC c0 c1 c2 c3 c4 then gathL c3 c4 ar di ss (slotsN c4 ss) else []).length ≤ 30 := by
      split
      · have := gathL_len c3 c4 ar di ss (slotsN c4 ss)
        unfold slotsN at *
        omega
      · exact Nat.zero_le _
    generalize (if OkC c0 c1 c2 c3 c4 then gathL c3 c4 ar di ss (slotsN c4 ss) else []) = g at *
    rw [Option.bind_some, told_f g (by omega) k (by omega), Option.bind_some, Option.bind_some, same_f _ (by rw [List.length_map]; omega) k (by rw [List.length_map]; omega), Option.bind_some, if_pos rfl, live_f, Option.bind_some]
end Go.Proofs.Ytmnpejoolbipeaa.Pure
