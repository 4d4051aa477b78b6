/- RingNewest: the newest ones of any intents, and which number comes next; of at most 60 intents whose numbers are at most 2^60. -/
import Derived.Test.YtmnpejoolbipeaaPureRiL
import Derived.Test.YtmnpejoolbipeaaPRix11
namespace Go.Proofs.Ytmnpejoolbipeaa.Pure
set_option linter.unusedVariables false
set_option linter.unusedSimpArgs false
open Go.RowKit Go.Proofs.Ytmnpejoolbipeaa.PRi Go.Proofs.Ytmnpejoolbipeaa.Given Go.Proofs.Ytmnpejoolbipeaa.Bs Go.Proofs.Ytmnpejoolbipeaa.WirePlain Go.Proofs.Ytmnpejoolbipeaa.KeyPlain Go.Proofs.Ytmnpejoolbipeaa.CrcPlain Go.Proofs.YtmnpejoolbipeaaW.PrintWords Go.Proofs.YtmnpejoolbipeaaW.PrintLast Go.Proofs.YtmnpejoolbipeaaW.PrintMore
theorem rn_loop (l : List S25) (hl : l.length ≤ 60) (hw : ∀ x ∈ l, -9223372036854775808 ≤ x.f0 ∧ (Lit.int .i64 x.f1).wf = true) (K : Nat) (hK : 10000 ≤ K) : ∀ (d i : Nat), i + d = l.length → (∀ j, ∀ h : j < l.length, j < i → l[j].f0 ≤ 1152921504606846976) → sheetpilelaw15_RingNewest.l0 (K + d + 1) l (i : Int) = some true
  | 0, i, h, hb => by
    have hb' : ∀ x ∈ l, -9223372036854775808 ≤ x.f0 ∧ x.f0 < 9223372036854775807 := fun x hx => by
      obtain ⟨j, hj, rfl⟩ := List.getElem_of_mem hx
      have := hb j hj (by omega)
      exact ⟨(hw _ hx).1, by omega⟩
    have hbm : ∀ x ∈ l.map toI, -9223372036854775808 ≤ x.f0 ∧ x.f0 < 9223372036854775807 := fun x hx => by
      obtain ⟨y, hy, rfl⟩ := List.mem_map.1 hx
      exact hb' y hy
    have hwm : ∀ x ∈ l.map toI, (Lit.int .i64 x.f1).wf = true := fun x hx => by
      obtain ⟨y, hy, rfl⟩ := List.mem_map.1 hx
      exact (hw y hy).2
    have hnl := newestL_len (l.map toI)
    rw [List.length_map] at hnl
    have hsq : (l.length + 1) * (l.length + 3) ≤ 61 * 63 := Nat.mul_le_mul (by omega) (by omega)
    rw [sheetpilelaw15_RingNewest.l0, if_neg (by omega), own_f l (by omega) _ (by omega), Option.bind_some, ring_Newest_f _ (by rw [List.length_map]; omega) hwm, Option.bind_some, told_f _ (by omega) _ (by omega), Option.bind_some, ref_Newest_f l (by omega) _ (by omega), Option.bind_some, same_f _ (by rw [List.length_map]; omega) _ (by rw [List.length_map]; omega), Option.bind_some, if_pos rfl, Option.bind_some, ring_Next_f _ (by rw [List.length_map]; omega) hbm, Option.bind_some, ref_Next_f l (by omega) hb' _ (by omega), Option.bind_some, if_pos rfl, live_f, Option.bind_some]
  | d + 1, i, h, hb => by
    have hlt : i < l.length := by omega
    rw [sheetpilelaw15_RingNewest.l0, if_pos (by omega), if_pos (by omega), rdR_get l i hlt]
    by_cases c : l[i].f0 > 1152921504606846976
    · rw [if_pos c, live_f, Option.bind_some]
    · rw [if_neg c, wsucc i (by omega)]
      refine rn_loop l hl hw K hK d (i + 1) (by omega) (fun j hj hji => ?_)
      by_cases e : j = i
      · subst e; omega
      · exact hb j hj (by omega)
theorem RingNewest (b0 : List S25) (h0 : b0.length * 32 ≤ 140737488351232 ∧ ∀ z_b0 ∈ b0, ((Lit.int .i64 z_b0.f0).wf = true) ∧ ((Lit.int .i64 z_b0.f1).wf = true) ∧ (z_b0.f2.size ≤ 140737488351232)) : ∃ k, sheetpilelaw15_RingNewest.f k b0 = some true := by
  by_cases hl : (b0.length : Int) > 60
  · refine ⟨0, ?_⟩
    unfold sheetpilelaw15_RingNewest.f
    rw [if_pos hl, live_f, Option.bind_some]
  · refine ⟨10000 + b0.length + 1, ?_⟩
    unfold sheetpilelaw15_RingNewest.f
    rw [if_neg hl]
    exact rn_loop b0 (by omega) (fun x hx => ⟨(i64_wf (h0.2 x hx).1).1, (h0.2 x hx).2.1⟩) 10000 (by omega) b0.length 0 (by omega) (fun j _ h => by omega)
end Go.Proofs.Ytmnpejoolbipeaa.Pure
