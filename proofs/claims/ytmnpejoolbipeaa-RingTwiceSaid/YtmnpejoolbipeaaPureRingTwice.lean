/- RingTwice: of copies, and of lists one behind the other, the newest ones are those of the whole; taken again they are themselves; of at most 60 intents. -/
import Derived.Test.YtmnpejoolbipeaaPureRiC
import Derived.Test.YtmnpejoolbipeaaPRix12
namespace Go.Proofs.Ytmnpejoolbipeaa.Pure
set_option linter.unusedVariables false
set_option linter.unusedSimpArgs false
open Go.RowKit Go.Proofs.Ytmnpejoolbipeaa.PRi Go.Proofs.Ytmnpejoolbipeaa.Given Go.Proofs.Ytmnpejoolbipeaa.Bs Go.Proofs.Ytmnpejoolbipeaa.WirePlain Go.Proofs.Ytmnpejoolbipeaa.KeyPlain Go.Proofs.Ytmnpejoolbipeaa.CrcPlain Go.Proofs.YtmnpejoolbipeaaW.PrintWords Go.Proofs.YtmnpejoolbipeaaW.PrintLast Go.Proofs.YtmnpejoolbipeaaW.PrintMore
theorem rt_loop (l : List S25) (hl : l.length ≤ 60) (a : List S44) (ha : a = newestL (l.map toI)) (hal : a.length ≤ 60) (K : Nat) (hK : 1000 ≤ K) : ∀ (d i : Nat), a.length ≤ i + d → 1 ≤ i → i ≤ 61 → sheetpilelaw15_RingTwice.l0 (K + d + 1) l a a a (i : Int) = some true := by
  intro d
  have hup : a.Pairwise (fun a b => a.f1 < b.f1) := by rw [ha]; exact newestL_up _
  have hnil : ((a.length : Int) == 0) = ((l.length : Int) == 0) := by
    have e : a = [] ↔ l = [] := by rw [ha, newest_nil, List.map_eq_nil_iff]
    by_cases c : l = []
    · rw [e.2 c, c]; rfl
    · have h1 : a.length ≠ 0 := fun h => c (e.1 (List.eq_nil_of_length_eq_zero h))
      have h2 : l.length ≠ 0 := fun h => c (List.eq_nil_of_length_eq_zero h)
      rw [beq_eq_false_iff_ne.mpr (by omega), beq_eq_false_iff_ne.mpr (by omega)]
  have hend : ∀ d i : Nat, a.length ≤ i → sheetpilelaw15_RingTwice.l0 (K + d + 1) l a a a (i : Int) = some true := by
    intro d i h
    rw [sheetpilelaw15_RingTwice.l0, if_neg (by omega), told_f a (by omega) _ (by omega)]
    simp only [Option.bind_some]
    rw [same_f _ (by rw [List.length_map]; omega) _ (by rw [List.length_map]; omega)]
    simp only [Option.bind_some, if_true]
    rw [if_pos (by rw [hnil]; exact beq_self_eq_true _), live_f, Option.bind_some]
  clear ha
  induction d with
  | zero => intro i h _ _; exact hend 0 i (by omega)
  | succ d ih =>
    intro i h h1 h2
    by_cases c : i < a.length
    · have hw1 : wrap64 ((i : Int) - 1) = ((i - 1 : Nat) : Int) := by rw [wrap_id (by omega) (by omega)]; omega
      have hlt := List.pairwise_iff_getElem.1 hup (i - 1) i (by omega) c (by omega)
      rw [sheetpilelaw15_RingTwice.l0, if_pos (by omega), hw1, if_pos (by omega), if_pos (by omega), if_pos (by omega), rdI_get a (i - 1) (by omega), rdI_get a i c, if_neg (by omega), wsucc i (by omega)]
      exact ih (i + 1) (by omega) (by omega) (by omega)
    · exact hend (d + 1) i (by omega)
theorem RingTwice (b0 : List S25) (h0 : b0.length * 32 ≤ 140737488351232 ∧ ∀ z_b0 ∈ b0, ((Lit.int .i64 z_b0.f0).wf = true) ∧ ((Lit.int .i64 z_b0.f1).wf = true) ∧ (z_b0.f2.size ≤ 140737488351232)) : ∃ k, sheetpilelaw15_RingTwice.f k b0 = some true := by
  by_cases hl : (b0.length : Int) > 60
  · refine ⟨0, ?_⟩
    unfold sheetpilelaw15_RingTwice.f
    rw [if_pos hl, live_f, Option.bind_some]
  · refine ⟨1000 + 60 + 1, ?_⟩
    have hw := map_wf b0 (fun x hx => (h0.2 x hx).2.1)
    have hnl := newestL_len (b0.map toI)
    rw [List.length_map] at hnl
    have hwa : ∀ x ∈ newestL (b0.map toI), (Lit.int .i64 x.f1).wf = true := fun x hx => hw x (newest_mem _ x hx)
    have hw2 : ∀ x ∈ b0.map toI ++ b0.map toI, (Lit.int .i64 x.f1).wf = true := fun x hx => (List.mem_append.1 hx).elim (hw x) (hw x)
    unfold sheetpilelaw15_RingTwice.f
    rw [if_neg hl, own_f b0 (by omega) _ (by omega), Option.bind_some, ring_Newest_f _ (by rw [List.length_map]; omega) hw, Option.bind_some, Option.bind_some, if_pos (by rw [List.length_map]; simp; omega), Option.bind_some, Option.bind_some, if_pos (by simp; omega), List.nil_append, ring_Newest_f _ (by rw [List.length_append, List.length_map]; omega) hw2, Option.bind_some, ring_Newest_f _ (by omega) hwa, Option.bind_some, newest_app _ _ (fun x h => h), newest_self _ (newestL_up _)]
    exact rt_loop b0 (by omega) _ rfl (by omega) 1000 (by omega) 60 1 (by omega) (by omega) (by omega)
end Go.Proofs.Ytmnpejoolbipeaa.Pure
