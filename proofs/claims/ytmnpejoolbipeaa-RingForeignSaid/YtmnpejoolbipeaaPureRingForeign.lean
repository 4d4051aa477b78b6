/- RingForeign: a disk of another number, or of another array, has no intents that count; of at most 30 sectors of 300 bytes. -/
import Derived.Test.YtmnpejoolbipeaaPureRiH
import Derived.Test.YtmnpejoolbipeaaPRix18
namespace Go.Proofs.Ytmnpejoolbipeaa.Pure
set_option linter.unusedVariables false
set_option linter.unusedSimpArgs false
open Go.RowKit Go.Proofs.Ytmnpejoolbipeaa.PRi Go.Proofs.Ytmnpejoolbipeaa.Given Go.Proofs.Ytmnpejoolbipeaa.Bs Go.Proofs.Ytmnpejoolbipeaa.WirePlain Go.Proofs.Ytmnpejoolbipeaa.KeyPlain Go.Proofs.Ytmnpejoolbipeaa.CrcPlain Go.Proofs.YtmnpejoolbipeaaW.PrintWords Go.Proofs.YtmnpejoolbipeaaW.PrintLast Go.Proofs.YtmnpejoolbipeaaW.PrintMore
theorem own_zero (l : List UInt8) (a d p : Int) (h : (ownL l a d p).2.2.2.2.2 = 0) : (openL l).1 = a ∧ (openL l).2.1 = d := by
  unfold ownL at h
  split at h
  · split at h
    · rename_i h1 h2; exact ⟨h2.1, h2.2.1⟩
    · cases h
  · rename_i h1; exact absurd h h1
theorem item_one (a3 a4 a d a' d' : Int) (s : List UInt8) (p : Nat) (hne : ¬ (a' = a ∧ d' = d)) : itemL a3 a4 a d s p = none ∨ itemL a3 a4 a' d' s p = none := by
  by_cases h1 : (ownL s a d (p : Int)).2.2.2.2.2 = 0
  · by_cases h2 : (ownL s a' d' (p : Int)).2.2.2.2.2 = 0
    · exfalso
      obtain ⟨e1, e2⟩ := own_zero _ _ _ _ h1
      obtain ⟨e3, e4⟩ := own_zero _ _ _ _ h2
      exact hne ⟨e3.symm.trans e1, e4.symm.trans e2⟩
    · right; unfold itemL; rw [if_neg (fun h => h2 h.1)]
  · left; unfold itemL; rw [if_neg (fun h => h1 h.1)]
theorem two_len {α β : Type} (f g : α → Option β) (h : ∀ x, f x = none ∨ g x = none) : ∀ l : List α, (l.filterMap f).length + (l.filterMap g).length ≤ l.length
  | [] => Nat.le_refl _
  | x :: l => by
    have ih := two_len f g h l
    rw [List.filterMap_cons, List.filterMap_cons]
    rcases h x with e | e
    · rw [e]
      cases g x
      · simp only [List.length_cons]; omega
      · simp only [List.length_cons]; omega
    · rw [e]
      cases f x
      · simp only [List.length_cons]; omega
      · simp only [List.length_cons]; omega
theorem RingForeign (c0 c1 c2 c3 c4 ar di : Int) (ss : List ByteArray) (h0 : (((Lit.int .i64 c0).wf = true) ∧ ((Lit.int .i64 c1).wf = true) ∧ ((Lit.int .i64 c2).wf = true) ∧ ((Lit.int .i64 c3).wf = true) ∧ ((Lit.int .i64 c4).wf = true)) ∧ ((Lit.int .i64 ar).wf = true) ∧ ((Lit.int .i64 di).wf = true) ∧ (ss.length * 16 ≤ 140737488351232 ∧ ∀ z ∈ ss, z.size ≤ 140737488351232))
    (b1 : Int) (h1 : (Lit.int .i64 b1).wf = true) (b2 : Int) (h2 : (Lit.int .i64 b2).wf = true) : ∃ k, sheetpilelaw15_RingForeign.f k c0 c1 c2 c3 c4 ar di ss b1 b2 = some true := by
  refine ⟨41, ?_⟩
  unfold sheetpilelaw15_RingForeign.f
  obtain ⟨b, hb, hbs⟩ := small_f ss 41 (by omega)
  rw [hb, Option.bind_some]
  cases b with
  | false => rw [if_neg (by decide), live_f, Option.bind_some]
  | true =>
    obtain ⟨hl, hz⟩ := hbs rfl
    rw [if_pos rfl, ring_Gather_f c0 c1 c2 c3 c4 ar di ss (by omega) (fun s hs => by have := hz s hs; omega) 41 (by omega), ring_Gather_f c0 c1 c2 c3 c4 b1 b2 ss (by omega) (fun s hs => by have := hz s hs; omega) 41 (by omega)]
    simp only [Option.bind_some]
    have hfar : ¬ (b1 = ar ∧ b2 = di) → sheetpilelaw15_RingForeign.j0 41 (if OkC c0 c1 c2 c3 c4 then gathL c3 c4 ar di ss (slotsN c4 ss) else []) (if OkC c0 c1 c2 c3 c4 then gathL c3 c4 b1 b2 ss (slotsN c4 ss) else []) false c0 c1 c2 c3 c4 ar di ss = some true := by
      intro hne
      rw [sheetpilelaw15_RingForeign.j0, if_neg (by decide)]
      by_cases hc : OkC c0 c1 c2 c3 c4
      · rw [if_pos hc, if_pos hc]
        have h2 := two_len (itemS c3 c4 ar di ss) (itemS c3 c4 b1 b2 ss) (fun i => item_one c3 c4 ar di b1 b2 _ _ hne) (List.range (slotsN c4 ss))
        rw [List.length_range] at h2
        have h6 := hc.2.2.2.2.2.2.2.2.2.2.1
        have h5 := hc.2.2.2.2.2.2.2.2.2.1
        have hN : (slotsN c4 ss : Int) ≤ c4 := by unfold slotsN; omega
        by_cases hz : ((gathL c3 c4 ar di ss (slotsN c4 ss)).length : Int) = 0
        · rw [if_pos hz, live_f, Option.bind_some]
        · rw [if_neg hz, if_pos ?_, live_f, Option.bind_some]
          show wrap64 (((List.filterMap (itemS c3 c4 ar di ss) (List.range (slotsN c4 ss))).length : Int) + ((List.filterMap (itemS c3 c4 b1 b2 ss) (List.range (slotsN c4 ss))).length : Int)) ≤ c4
          rw [wrap_id (by omega) (by omega)]
          omega
      · rw [if_neg hc, if_pos (by rfl), live_f, Option.bind_some]
    by_cases e1 : b1 = ar
    · rw [if_pos e1]
      by_cases e2 : b2 = di
      · subst e1 e2
        rw [beq_self_eq_true, sheetpilelaw15_RingForeign.j0, if_pos rfl, if_pos rfl, live_f, Option.bind_some]
      · rw [beq_eq_false_iff_ne.mpr e2]
        exact hfar (fun h => e2 h.2)
    · rw [if_neg e1]
      exact hfar (fun h => e1 h.1)
end Go.Proofs.Ytmnpejoolbipeaa.Pure
