/- RingBehind: with one intent more, whose number is the next one, that is the newest one of its stripe, and all others are as they were; of at most 60 intents whose numbers are from 0 to 2^60. -/
import Derived.Test.YtmnpejoolbipeaaPureRiC
import Derived.Test.YtmnpejoolbipeaaPRix13
namespace Go.Proofs.Ytmnpejoolbipeaa.Pure
set_option linter.unusedVariables false
set_option linter.unusedSimpArgs false
open Go.RowKit Go.Proofs.Ytmnpejoolbipeaa.PRi Go.Proofs.Ytmnpejoolbipeaa.Given Go.Proofs.Ytmnpejoolbipeaa.Bs Go.Proofs.Ytmnpejoolbipeaa.WirePlain Go.Proofs.Ytmnpejoolbipeaa.KeyPlain Go.Proofs.Ytmnpejoolbipeaa.CrcPlain Go.Proofs.YtmnpejoolbipeaaW.PrintWords Go.Proofs.YtmnpejoolbipeaaW.PrintLast Go.Proofs.YtmnpejoolbipeaaW.PrintMore
theorem sI_eta (x : S44) : (⟨x.f0, x.f1, x.f2⟩ : S44) = x := rfl
theorem rb_in (k : Nat) (x1 : Int) (more a b : List S44) (fd : Bool) (i : Nat) (y0 y1 : Int) (y2 : ByteArray) (ha : a.length ≤ 1000) (j : Nat) (hj : j < a.length) (hi : i < b.length) (hab : a[j] = b[i]) : ∀ (q p : Nat) (inn : Bool), p + q = a.length → (inn = true ∨ p ≤ j) →
    sheetpilelaw15_RingBehind.l2 (k + q + 1) x1 more a b fd (i : Int) inn (p : Int) y0 y1 y2 = sheetpilelaw15_RingBehind.l1 k x1 more a b fd (wrap64 ((i : Int) + 1)) y0 y1 y2
  | 0, p, inn, h, ho => by
    obtain rfl : inn = true := ho.resolve_right (by omega)
    rw [sheetpilelaw15_RingBehind.l2, if_neg (by omega), if_pos rfl]
  | q + 1, p, inn, h, ho => by
    have hp : p < a.length := by omega
    rw [show k + (q + 1) + 1 = (k + q + 1) + 1 by omega, sheetpilelaw15_RingBehind.l2, if_pos (by omega), wsucc p (by omega)]
    cases inn with
    | true =>
      rw [if_pos rfl]
      exact rb_in k x1 more a b fd i y0 y1 y2 ha j hj hi hab q (p + 1) true (by omega) (.inl rfl)
    | false =>
      rw [if_neg (by decide), if_pos (by omega), if_pos (by omega), if_pos (by omega), rdI_get a p hp, rdI_get b i hi]
      by_cases e : p = j
      · subst e
        rw [hab]
        exact rb_in k x1 more a b fd i y0 y1 y2 ha p hj hi hab q (p + 1) _ (by omega) (.inl (by simp))
      · have hpj : p ≤ j := ho.resolve_left (by decide)
        exact rb_in k x1 more a b fd i y0 y1 y2 ha j hj hi hab q (p + 1) _ (by omega) (.inr (by omega))
theorem rb_out (more a b : List S44) (x : S44) (ha : a.length ≤ 1000) (hb : b.length ≤ 1000) (hup : b.Pairwise (fun a b => a.f1 < b.f1)) (hx : atI b x.f1 = some x) (hin : ∀ y ∈ b, y.f1 ≠ x.f1 → y ∈ a) (hnx : ring_Next.f more = some (wrap64 (x.f0 + 1))) : ∀ (d k i : Nat), i + d = b.length → (d + 1) * (a.length + 3) ≤ k →
    sheetpilelaw15_RingBehind.l1 k x.f1 more a b ((b.take i).any fun y => y.f1 == x.f1) (i : Int) x.f0 x.f1 x.f2 = some true
  | 0, k, i, h, hk => by
    obtain ⟨k, rfl⟩ : ∃ k', k = k' + 1 := ⟨k - 1, by omega⟩
    have hany : ((b.take i).any fun y => y.f1 == x.f1) = true := by
      rw [List.take_of_length_le (by omega), List.any_eq_true]
      exact ⟨x, atI_mem hx, by simp⟩
    rw [sheetpilelaw15_RingBehind.l1, if_neg (by omega), if_pos hany, hnx, Option.bind_some, if_pos rfl, live_f, Option.bind_some]
  | d + 1, k, i, h, hk => by
    have hlt : i < b.length := by omega
    have hk2 : (d + 1) * (a.length + 3) + (a.length + 3) ≤ k := by
      have : (d + 1 + 1) * (a.length + 3) = (d + 1) * (a.length + 3) + (a.length + 3) := by rw [Nat.add_mul (d + 1) 1, Nat.one_mul]
      omega
    have htk : (b.take (i + 1)).any (fun y => y.f1 == x.f1) = ((b.take i).any (fun y => y.f1 == x.f1) || (b[i].f1 == x.f1)) := by
      rw [List.take_succ_eq_append_getElem hlt, List.any_append]; simp
    obtain ⟨k, rfl⟩ : ∃ k', k = k' + a.length + 1 + 1 := ⟨k - (a.length + 2), by omega⟩
    rw [sheetpilelaw15_RingBehind.l1, if_pos (by omega), if_pos (by omega), rdI_get b i hlt]
    by_cases c : b[i].f1 = x.f1
    · have e : b[i] = x := by
        have := atI_of_mem hup (List.getElem_mem hlt)
        rw [c, hx] at this
        exact (Option.some.inj this).symm
      rw [if_pos c, wsucc i (by omega)]
      have ih := rb_out more a b x ha hb hup hx hin hnx d (k + a.length + 1) (i + 1) (by omega) (by omega)
      rw [htk, e] at ih
      rw [e]
      simpa using ih
    · rw [if_neg c]
      obtain ⟨j, hj, hje⟩ := List.getElem_of_mem (hin b[i] (List.getElem_mem hlt) c)
      rw [show ((0 : Int)) = ((0 : Nat) : Int) from rfl, rb_in k x.f1 more a b _ i x.f0 x.f1 x.f2 ha j hj hlt hje a.length 0 false (by omega) (.inr (by omega)), wsucc i (by omega)]
      have ih := rb_out more a b x ha hb hup hx hin hnx d k (i + 1) (by omega) (by omega)
      rw [htk, beq_eq_false_iff_ne.mpr c, Bool.or_false] at ih
      exact ih
theorem nextF_gt (l : List S44) : ∀ x ∈ l, x.f0 < nextF l := by
  refine snoc_ind (p := fun l => ∀ x ∈ l, x.f0 < nextF l) (fun x h => by cases h) (fun t x ih z h => ?_) l
  by_cases ht : t = []
  · subst ht
    simp at h; subst h
    show z.f0 < z.f0 + 1
    omega
  · rw [nextF_snoc t x ht]
    rcases List.mem_append.1 h with h | h
    · have := ih z h
      split <;> omega
    · simp at h; subst h
      split <;> omega
theorem nextF_bd (l : List S44) (M : Int) (h : ∀ x ∈ l, 0 ≤ x.f0 ∧ x.f0 ≤ M) (hM : 0 ≤ M) : 0 ≤ nextF l ∧ nextF l ≤ M + 1 := by
  cases l with
  | nil => exact ⟨by show (0 : Int) ≤ 0; omega, by show (0 : Int) ≤ M + 1; omega⟩
  | cons x t =>
    have hm : maxF t x ∈ x :: t := by
      rcases maxF_mem t x with h | h
      · rw [h]; exact .head _
      · exact List.mem_cons_of_mem _ h
    have := h _ hm
    exact ⟨by show 0 ≤ (maxF t x).f0 + 1; omega, by show (maxF t x).f0 + 1 ≤ M + 1; omega⟩
theorem nextF_end (l : List S44) (x : S44) (h : x.f0 = nextF l) : nextF (l ++ [x]) = x.f0 + 1 := by
  by_cases hl : l = []
  · subst hl; rfl
  · rw [nextF_snoc l x hl, if_pos (by omega)]
theorem rb_end (l : List S25) (hl : l.length ≤ 60) (st : Int) (hst : (Lit.int .i64 st).wf = true) (tx : ByteArray) (hw : ∀ x ∈ l, (Lit.int .i64 x.f1).wf = true) (hb : ∀ x ∈ l, 0 ≤ x.f0 ∧ x.f0 ≤ 1152921504606846976) (k : Nat) (hk : 100000 ≤ k) (i : Nat) (hi : i = l.length) :
    sheetpilelaw15_RingBehind.l0 (k + 1) l st tx (i : Int) = some true := by
  have hwm := map_wf l hw
  have hbm : ∀ x ∈ l.map toI, 0 ≤ x.f0 ∧ x.f0 ≤ 1152921504606846976 := fun x hx => by
    obtain ⟨y, hy, rfl⟩ := List.mem_map.1 hx
    exact hb y hy
  have hbn := nextF_bd (l.map toI) 1152921504606846976 hbm (by decide)
  have hgt := nextF_gt (l.map toI)
  have hlm : (l.map toI).length = l.length := List.length_map _
  rw [sheetpilelaw15_RingBehind.l0, if_neg (by omega), own_f l (by omega) _ (by omega)]
  obtain ⟨L, hL⟩ : ∃ L, L = l.map toI := ⟨_, rfl⟩
  rw [← hL] at hwm hbm hbn hgt hlm ⊢
  clear hL
  obtain ⟨x, hx⟩ : ∃ x : S44, x = ⟨nextF L, st, tx⟩ := ⟨_, rfl⟩
  have x0 : x.f0 = nextF L := by rw [hx]
  have x1 : x.f1 = st := by rw [hx]
  have x2 : x.f2 = tx := by rw [hx]
  have hnl := newestL_len L
  have hnb := newestL_len (L ++ [x])
  rw [List.length_append, List.length_singleton] at hnb
  have hws : ∀ y ∈ L ++ [x], (Lit.int .i64 y.f1).wf = true := fun y hy => by
    rcases List.mem_append.1 hy with h | h
    · exact hwm y h
    · simp at h; subst h; rw [x1]; exact hst
  simp only [Option.bind_some]
  rw [ring_Next_f L (by omega) (fun y hy => by have := hbm y hy; omega)]
  simp only [Option.bind_some]
  rw [if_pos (by simp; omega), List.nil_append, if_pos (by omega), ring_Newest_f L (by omega) hwm, ← hx, ring_Newest_f (L ++ [x]) (by rw [List.length_append, List.length_singleton]; omega) hws]
  simp only [Option.bind_some]
  have hnx : ring_Next.f (L ++ [x]) = some (wrap64 (x.f0 + 1)) := by
    rw [ring_Next_f _ (by rw [List.length_append, List.length_singleton]; omega) (fun y hy => ?_), nextF_end L x x0, wrap_id (by omega) (by omega)]
    rcases List.mem_append.1 hy with h | h
    · have := hbm y h; omega
    · simp at h; subst h; omega
  have hat : atI (newestL (L ++ [x])) x.f1 = some x := by
    rw [newestL_snoc, atI_ins x x.f1 _ (newestL_up L), if_pos rfl]
    cases ha : atI (newestL L) x.f1 with
    | none => rfl
    | some y =>
      have := hgt y (newest_mem L y (atI_mem ha))
      simp only [if_pos (show x.f0 > y.f0 by omega)]
  have hin : ∀ y ∈ newestL (L ++ [x]), y.f1 ≠ x.f1 → y ∈ newestL L := fun y hy hne => by
    rw [newestL_snoc] at hy
    rcases insI_mem hy with rfl | h
    · exact absurd rfl hne
    · exact h
  have hsq : ((newestL (L ++ [x])).length + 1) * ((newestL L).length + 3) ≤ 62 * 63 := Nat.mul_le_mul (by omega) (by omega)
  have h := rb_out (L ++ [x]) (newestL L) (newestL (L ++ [x])) x (by omega) (by omega) (newestL_up _) hat hin hnx (newestL (L ++ [x])).length k 0 (by omega) (by omega)
  rw [x0, x1, x2] at h
  exact h
theorem rb_loop (l : List S25) (hl : l.length ≤ 60) (st : Int) (hst : (Lit.int .i64 st).wf = true) (tx : ByteArray) (hw : ∀ x ∈ l, (Lit.int .i64 x.f1).wf = true) : ∀ (d i : Nat), i + d = l.length → (∀ j, ∀ h : j < l.length, j < i → 0 ≤ l[j].f0 ∧ l[j].f0 ≤ 1152921504606846976) → sheetpilelaw15_RingBehind.l0 (100000 + d + 1) l st tx (i : Int) = some true
  | 0, i, h, hb => rb_end l hl st hst tx hw (fun x hx => by
      obtain ⟨j, hj, rfl⟩ := List.getElem_of_mem hx
      exact hb j hj (by omega)) 100000 (by omega) i (by omega)
  | d + 1, i, h, hb => by
    have hlt : i < l.length := by omega
    rw [sheetpilelaw15_RingBehind.l0, if_pos (by omega), if_pos (by omega), rdR_get l i hlt]
    by_cases c : l[i].f0 > 1152921504606846976
    · rw [if_pos c, live_f, Option.bind_some]
    · rw [if_neg c]
      by_cases c2 : l[i].f0 < 0
      · rw [if_pos c2, live_f, Option.bind_some]
      · rw [if_neg c2, wsucc i (by omega)]
        refine rb_loop l hl st hst tx hw d (i + 1) (by omega) (fun j hj hji => ?_)
        by_cases e : j = i
        · subst e; omega
        · exact hb j hj (by omega)
theorem RingBehind (b0 : List S25) (h0 : b0.length * 32 ≤ 140737488351232 ∧ ∀ z_b0 ∈ b0, ((Lit.int .i64 z_b0.f0).wf = true) ∧ ((Lit.int .i64 z_b0.f1).wf = true) ∧ (z_b0.f2.size ≤ 140737488351232)) (b1 : Int) (h1 : (Lit.int .i64 b1).wf = true) (b2 : ByteArray) (h2 : b2.size ≤ 140737488351232) : ∃ k, sheetpilelaw15_RingBehind.f k b0 b1 b2 = some true := by
  refine ⟨100000 + b0.length + 1 + 1, ?_⟩
  unfold sheetpilelaw15_RingBehind.f
  by_cases hl : (b0.length : Int) > 60
  · rw [if_pos hl, sheetpilelaw15_RingBehind.j0, if_pos rfl, live_f, Option.bind_some]
  · rw [if_neg hl, sheetpilelaw15_RingBehind.j0]
    by_cases c : b1 < 0
    · rw [if_pos (decide_eq_true c), live_f, Option.bind_some]
    · rw [decide_eq_false c, if_neg (by decide)]
      exact rb_loop b0 (by omega) b1 h1 b2 (fun x hx => (h0.2 x hx).2.1) b0.length 0 (by omega) (fun j _ h => by omega)
end Go.Proofs.Ytmnpejoolbipeaa.Pure
