/- The newest ones of lists one behind the other. -/
import Derived.Test.YtmnpejoolbipeaaPureRiL
import Derived.Test.YtmnpejoolbipeaaPRix10
namespace Go.Proofs.Ytmnpejoolbipeaa.Pure
set_option linter.unusedVariables false
set_option linter.unusedSimpArgs false
open Go.RowKit Go.Proofs.Ytmnpejoolbipeaa.PRi Go.Proofs.Ytmnpejoolbipeaa.Given Go.Proofs.Ytmnpejoolbipeaa.Bs Go.Proofs.Ytmnpejoolbipeaa.WirePlain Go.Proofs.Ytmnpejoolbipeaa.KeyPlain Go.Proofs.Ytmnpejoolbipeaa.CrcPlain Go.Proofs.YtmnpejoolbipeaaW.PrintWords Go.Proofs.YtmnpejoolbipeaaW.PrintLast Go.Proofs.YtmnpejoolbipeaaW.PrintMore
theorem insI_keep (x : S44) : ∀ m : List S44, m.Pairwise (fun a b => a.f1 < b.f1) → ∀ y, atI m x.f1 = some y → ¬ x.f0 > y.f0 → insI x m = m
  | [], _, y, h, _ => by cases h
  | z :: t, hm, y, h, hle => by
    obtain ⟨h1, h2⟩ := List.pairwise_cons.1 hm
    have hy := atI_mem h
    have hk := atI_key h
    have hz : z.f1 ≤ x.f1 := by
      rcases List.mem_cons.1 hy with rfl | hy
      · omega
      · have := h1 y hy; omega
    unfold insI
    rw [if_neg (by omega)]
    by_cases c : z.f1 < x.f1
    · rw [if_pos c]
      have e : atI t x.f1 = some y := by
        unfold atI at h ⊢
        rwa [List.find?_cons_of_neg (by simp; omega)] at h
      rw [insI_keep x t h2 y e hle]
    · rw [if_neg c]
      have e : y = z := by
        unfold atI at h
        rw [List.find?_cons_of_pos (by simp; omega)] at h
        exact (Option.some.inj h).symm
      subst e
      rw [if_neg hle]
theorem insI_end (x : S44) : ∀ m : List S44, (∀ y ∈ m, y.f1 < x.f1) → insI x m = m ++ [x]
  | [], _ => rfl
  | z :: t, h => by
    unfold insI
    have := h z (.head _)
    rw [if_neg (by omega), if_pos this, insI_end x t (fun y hy => h y (List.mem_cons_of_mem _ hy))]
    rfl
theorem newest_ge (l : List S44) : ∀ x ∈ l, ∃ y, atI (newestL l) x.f1 = some y ∧ ¬ x.f0 > y.f0 := by
  refine snoc_ind (p := fun l => ∀ x ∈ l, ∃ y, atI (newestL l) x.f1 = some y ∧ ¬ x.f0 > y.f0) (fun y h => by cases h) (fun t x ih z h => ?_) l
  rw [newestL_snoc, atI_ins x z.f1 _ (newestL_up t)]
  by_cases e : z.f1 = x.f1
  · rw [if_pos e]
    cases ha : atI (newestL t) x.f1 with
    | none =>
      rcases List.mem_append.1 h with h | h
      · obtain ⟨y, hy, _⟩ := ih z h
        rw [e, ha] at hy; cases hy
      · simp at h; subst h
        exact ⟨z, rfl, by omega⟩
    | some y =>
      refine ⟨_, rfl, ?_⟩
      rcases List.mem_append.1 h with h | h
      · obtain ⟨y', hy, hle⟩ := ih z h
        rw [e, ha] at hy
        cases hy
        split <;> omega
      · simp at h; subst h
        split <;> omega
  · rw [if_neg e]
    rcases List.mem_append.1 h with h | h
    · exact ih z h
    · simp at h; exact absurd (by rw [h]) e
theorem newest_app (l : List S44) (m : List S44) (h : ∀ x ∈ m, x ∈ l) : newestL (l ++ m) = newestL l := by
  have H : ∀ m : List S44, (∀ x ∈ m, x ∈ l) → m.foldl (fun m x => insI x m) (newestL l) = newestL l := by
    intro m
    induction m with
    | nil => intro _; rfl
    | cons x m ih =>
      intro h
      obtain ⟨y, hy, hle⟩ := newest_ge l x (h x (.head _))
      rw [List.foldl_cons, insI_keep x _ (newestL_up l) y hy hle]
      exact ih (fun z hz => h z (List.mem_cons_of_mem _ hz))
  have e : newestL (l ++ m) = m.foldl (fun m x => insI x m) (newestL l) := by unfold newestL; rw [List.foldl_append]
  rw [e]
  exact H m h
theorem newest_self (a : List S44) : a.Pairwise (fun a b => a.f1 < b.f1) → newestL a = a := by
  refine snoc_ind (p := fun a => a.Pairwise (fun a b => a.f1 < b.f1) → newestL a = a) (fun _ => rfl) (fun t x ih h => ?_) a
  obtain ⟨h1, h2, h3⟩ := List.pairwise_append.1 h
  rw [newestL_snoc, ih h1, insI_end x t (fun y hy => h3 y hy x (by simp))]
theorem newest_nil (l : List S44) : newestL l = [] ↔ l = [] := by
  constructor
  · intro h
    cases l with
    | nil => rfl
    | cons x t =>
      obtain ⟨y, hy, _⟩ := newest_has (x :: t) x (.head _)
      rw [h] at hy; cases hy
  · rintro rfl; rfl
theorem map_wf (l : List S25) (hw : ∀ x ∈ l, (Lit.int .i64 x.f1).wf = true) : ∀ x ∈ l.map toI, (Lit.int .i64 x.f1).wf = true := fun x hx => by
  obtain ⟨y, hy, rfl⟩ := List.mem_map.1 hx
  exact hw y hy
end Go.Proofs.Ytmnpejoolbipeaa.Pure
