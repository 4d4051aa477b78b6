/- The document's newest intents are the program's. -/
import Derived.Test.YtmnpejoolbipeaaPureRiA
import Derived.Test.YtmnpejoolbipeaaRingNewest
import Derived.Test.YtmnpejoolbipeaaPRix6
namespace Go.Proofs.Ytmnpejoolbipeaa.Pure
set_option linter.unusedVariables false
set_option linter.unusedSimpArgs false
open Go.RowKit Go.Proofs.Ytmnpejoolbipeaa.PRi Go.Proofs.Ytmnpejoolbipeaa.Given Go.Proofs.Ytmnpejoolbipeaa.Bs Go.Proofs.Ytmnpejoolbipeaa.WirePlain Go.Proofs.Ytmnpejoolbipeaa.KeyPlain Go.Proofs.Ytmnpejoolbipeaa.CrcPlain Go.Proofs.YtmnpejoolbipeaaW.PrintWords Go.Proofs.YtmnpejoolbipeaaW.PrintLast Go.Proofs.YtmnpejoolbipeaaW.PrintMore
theorem snoc_ind {α : Type} {p : List α → Prop} (h0 : p []) (h1 : ∀ t x, p t → p (t ++ [x])) (l : List α) : p l := by
  have H : ∀ n, ∀ l : List α, l.length = n → p l := by
    intro n
    induction n with
    | zero => intro l h; rw [List.eq_nil_of_length_eq_zero h]; exact h0
    | succ n ih =>
      intro l h
      rcases List.eq_nil_or_concat l with rfl | ⟨t, x, e⟩
      · exact h0
      · rw [e, List.concat_eq_append] at h ⊢
        exact h1 t x (ih t (by simpa using h))
  exact H _ l rfl
theorem newest_mem (l : List S44) : ∀ y ∈ newestL l, y ∈ l := by
  refine snoc_ind (p := fun l => ∀ y ∈ newestL l, y ∈ l) (fun y h => by simp [newestL] at h) (fun t x ih y h => ?_) l
  rw [newestL_snoc] at h
  rcases insI_mem h with rfl | h
  · simp
  · exact List.mem_append_left _ (ih y h)
theorem atI_some_iff (m : List S44) (s : Int) : (∃ y ∈ m, y.f1 = s) ↔ (atI m s).isSome = true := by
  constructor
  · rintro ⟨y, hy, e⟩
    cases h : atI m s with
    | some z => rfl
    | none =>
      unfold atI at h
      rw [List.find?_eq_none] at h
      exact absurd (by simpa using e) (h y hy)
  · intro h
    obtain ⟨y, hy⟩ := Option.isSome_iff_exists.1 h
    exact ⟨y, atI_mem hy, atI_key hy⟩
theorem newest_has (l : List S44) : ∀ x ∈ l, ∃ y ∈ newestL l, y.f1 = x.f1 := by
  refine snoc_ind (p := fun l => ∀ x ∈ l, ∃ y ∈ newestL l, y.f1 = x.f1) (fun y h => by cases h) (fun t x ih y h => ?_) l
  rw [newestL_snoc, atI_some_iff, atI_ins x y.f1 _ (newestL_up t)]
  by_cases e : y.f1 = x.f1
  · rw [if_pos e]
    cases atI (newestL t) x.f1 <;> rfl
  · rw [if_neg e]
    rcases List.mem_append.1 h with h | h
    · exact (atI_some_iff _ _).1 (ih y h)
    · simp at h; exact absurd (by rw [h]) e
def AtOk (l : List S25) (s : Int) (i : Nat) (at_ : Int) : Prop :=
  (at_ = -1 ∧ atI (newestL ((l.take i).map toI)) s = none) ∨ ∃ j, ∃ h : j < l.length, j < i ∧ at_ = (j : Int) ∧ atI (newestL ((l.take i).map toI)) s = some (toI l[j])
theorem take_toI (l : List S25) (i : Nat) (h : i < l.length) : (l.take (i + 1)).map toI = (l.take i).map toI ++ [toI l[i]] := by
  rw [List.take_succ_eq_append_getElem h, List.map_append]; rfl
theorem rnewest_loop (l : List S25) (hl : l.length ≤ 1000000) (s : Int) : ∀ (d k i : Nat) (at_ : Int), i + d = l.length → d + 1 ≤ k → AtOk l s i at_ → ∃ r, sheetpileref15_newest.l0 k l s at_ (i : Int) = some r ∧ AtOk l s l.length r
  | 0, k + 1, i, at_, h, _, ho => by
    obtain rfl : i = l.length := by omega
    exact ⟨at_, by rw [sheetpileref15_newest.l0, if_neg (by omega)], ho⟩
  | d + 1, k + 1, i, at_, h, hk, ho => by
    have hlt : i < l.length := by omega
    have hst := take_toI l i hlt
    have hins := fun s => atI_ins (toI l[i]) s (newestL ((l.take i).map toI)) (newestL_up _)
    have hstep : ∀ at2, AtOk l s (i + 1) at2 → sheetpileref15_newest.l0 (k + 1) l s at_ (i : Int) = sheetpileref15_newest.l0 k l s at2 ((i + 1 : Nat) : Int) → ∃ r, sheetpileref15_newest.l0 (k + 1) l s at_ (i : Int) = some r ∧ AtOk l s l.length r := by
      intro at2 h2 e
      rw [e]
      exact rnewest_loop l hl s d k (i + 1) at2 (by omega) (by omega) h2
    have hw := wsucc i (by omega)
    by_cases hs : l[i].f1 = s
    · rcases ho with ⟨rfl, hn⟩ | ⟨j, hj, hji, rfl, ha⟩
      · refine hstep i (.inr ⟨i, hlt, by omega, rfl, ?_⟩) ?_
        · rw [hst, newestL_snoc, hins, if_pos (by exact hs.symm), show (toI l[i]).f1 = s from hs, hn]
        · rw [sheetpileref15_newest.l0, if_pos (by omega), if_pos (by omega), rdR_get l i hlt, if_pos hs, if_pos (by omega), hw]
      · by_cases hc : l[i].f0 > l[j].f0
        · refine hstep i (.inr ⟨i, hlt, by omega, rfl, ?_⟩) ?_
          · rw [hst, newestL_snoc, hins, if_pos (by exact hs.symm), show (toI l[i]).f1 = s from hs, ha]
            show some (if l[i].f0 > l[j].f0 then toI l[i] else toI l[j]) = _
            rw [if_pos hc]
          · rw [sheetpileref15_newest.l0, if_pos (by omega), if_pos (by omega), rdR_get l i hlt, if_pos hs, if_neg (by omega), if_pos (by omega), if_pos (by omega), rdR_get l j hj, if_pos hc, hw]
        · refine hstep j (.inr ⟨j, hj, by omega, rfl, ?_⟩) ?_
          · rw [hst, newestL_snoc, hins, if_pos (by exact hs.symm), show (toI l[i]).f1 = s from hs, ha]
            show some (if l[i].f0 > l[j].f0 then toI l[i] else toI l[j]) = _
            rw [if_neg hc]
          · rw [sheetpileref15_newest.l0, if_pos (by omega), if_pos (by omega), rdR_get l i hlt, if_pos hs, if_neg (by omega), if_pos (by omega), if_pos (by omega), rdR_get l j hj, if_neg hc, hw]
    · refine hstep at_ ?_ ?_
      · rcases ho with ⟨rfl, hn⟩ | ⟨j, hj, hji, rfl, ha⟩
        · exact .inl ⟨rfl, by rw [hst, newestL_snoc, hins, if_neg (fun e => hs (by rw [e]; rfl))]; exact hn⟩
        · exact .inr ⟨j, hj, by omega, rfl, by rw [hst, newestL_snoc, hins, if_neg (fun e => hs (by rw [e]; rfl))]; exact ha⟩
      · rw [sheetpileref15_newest.l0, if_pos (by omega), if_pos (by omega), rdR_get l i hlt, if_neg hs, hw]
theorem rnewest_f (l : List S25) (hl : l.length ≤ 1000000) (k : Nat) (hk : l.length + 1 ≤ k) (y : S44) (hy : y ∈ newestL (l.map toI)) : ∃ j, ∃ h : j < l.length, sheetpileref15_newest.f k l y.f1 = some (j : Int) ∧ toI l[j] = y := by
  obtain ⟨r, e, ho⟩ := rnewest_loop l hl y.f1 l.length k 0 (-1) (by omega) (by omega) (.inl ⟨rfl, rfl⟩)
  have ha := atI_of_mem (newestL_up (l.map toI)) hy
  rcases ho with ⟨rfl, hn⟩ | ⟨j, hj, _, rfl, hb⟩
  · rw [List.take_length, ha] at hn; cases hn
  · rw [List.take_length, ha] at hb
    exact ⟨j, hj, e, (Option.some.inj hb).symm⟩
/-- What stands behind the first n of the newest ones. -/
def BehI (M : List S44) (n : Nat) (x : Int) : Prop := ∀ y ∈ M.take n, y.f1 < x
def NxOk (l : List S25) (M : List S44) (n i : Nat) (nx : Int) : Prop :=
  (nx = -1 ∧ ∀ j, ∀ h : j < l.length, j < i → ¬ BehI M n l[j].f1) ∨ ∃ a, ∃ ha : a < l.length, a < i ∧ nx = (a : Int) ∧ BehI M n l[a].f1 ∧ ∀ j, ∀ h : j < l.length, j < i → BehI M n l[j].f1 → l[a].f1 ≤ l[j].f1
theorem beh_last (M : List S44) (hM : M.Pairwise (fun a b => a.f1 < b.f1)) (n : Nat) (h0 : 0 < n) (hn : n ≤ M.length) (x : Int) : BehI M n x ↔ (M[n - 1]'(by omega)).f1 < x := by
  constructor
  · intro h
    refine h _ ?_
    rw [List.mem_take_iff_getElem]
    exact ⟨n - 1, by omega, rfl⟩
  · intro h y hy
    rw [List.mem_take_iff_getElem] at hy
    obtain ⟨j, hj, rfl⟩ := hy
    by_cases e : j = n - 1
    · subst e; exact h
    · have := List.pairwise_iff_getElem.1 hM j (n - 1) (by omega) (by omega) (by omega)
      omega
theorem beh_zero (M : List S44) (x : Int) : BehI M 0 x := fun y hy => by simp at hy
set_option maxHeartbeats 1000000 in
theorem inner_loop (l : List S25) (hl : l.length ≤ 1000000) (M : List S44) (hM : M.Pairwise (fun a b => a.f1 < b.f1)) (n : Nat) (hn : n ≤ M.length) (hml : M.length ≤ 1000000) : ∀ (d k i : Nat) (nx : Int), i + d = l.length → NxOk l M n i nx →
    ∃ nx2, NxOk l M n l.length nx2 ∧ sheetpileref15_Newest.l1 (k + d) l ((M.take n).map ofI) nx (i : Int) = sheetpileref15_Newest.l1 k l ((M.take n).map ofI) nx2 (l.length : Int)
  | 0, k, i, nx, h, ho => by
    obtain rfl : i = l.length := by omega
    exact ⟨nx, ho, rfl⟩
  | d + 1, k, i, nx, h, ho => by
    have hlt : i < l.length := by omega
    have hw := wsucc i (by omega)
    have hstep : ∀ nx2, NxOk l M n (i + 1) nx2 → sheetpileref15_Newest.l1 (k + (d + 1)) l ((M.take n).map ofI) nx (i : Int) = sheetpileref15_Newest.l1 (k + d) l ((M.take n).map ofI) nx2 ((i + 1 : Nat) : Int) → ∃ nx2, NxOk l M n l.length nx2 ∧ sheetpileref15_Newest.l1 (k + (d + 1)) l ((M.take n).map ofI) nx (i : Int) = sheetpileref15_Newest.l1 k l ((M.take n).map ofI) nx2 (l.length : Int) := by
      intro nx2 h2 e
      obtain ⟨nx3, h3, e3⟩ := inner_loop l hl M hM n hn hml d k (i + 1) nx2 (by omega) h2
      exact ⟨nx3, h3, e.trans e3⟩
    have hlen : ((M.take n).map ofI).length = n := by rw [List.length_map, List.length_take]; omega
    -- the test 'behind'
    have hun : ∀ R : Option (List S25), (BehI M n l[i].f1 → (if nx < 0 then sheetpileref15_Newest.l1 (k + d) l ((M.take n).map ofI) (i : Int) (wrap64 ((i : Int) + 1)) else if 0 ≤ nx then (if nx < (l.length : Int) then (if l[i].f1 < (rd_T25 l nx).f1 then sheetpileref15_Newest.l1 (k + d) l ((M.take n).map ofI) (i : Int) (wrap64 ((i : Int) + 1)) else sheetpileref15_Newest.l1 (k + d) l ((M.take n).map ofI) nx (wrap64 ((i : Int) + 1))) else none) else none) = R) → (¬ BehI M n l[i].f1 → sheetpileref15_Newest.l1 (k + d) l ((M.take n).map ofI) nx (wrap64 ((i : Int) + 1)) = R) → sheetpileref15_Newest.l1 (k + (d + 1)) l ((M.take n).map ofI) nx (i : Int) = R := by
      intro R h1 h2
      rw [show k + (d + 1) = (k + d) + 1 by omega, sheetpileref15_Newest.l1, if_pos (by omega), hlen]
      by_cases h0 : n = 0
      · subst h0
        rw [if_pos (by omega), rdR_get l i hlt]
        have := h1 (beh_zero _ _)
        rw [← this]
        by_cases c : nx < 0
        · rw [if_pos c, if_pos c]
        · rw [if_neg c, if_neg c, if_pos (by omega)]
      · have hw1 : wrap64 ((n : Int) - 1) = ((n - 1 : Nat) : Int) := by rw [wrap_id (by omega) (by omega)]; omega
        have hrd : rd_T25 ((M.take n).map ofI) ((n - 1 : Nat) : Int) = ofI (M[n - 1]'(by omega)) := by
          rw [rdR_get _ (n - 1) (by omega), List.getElem_map, List.getElem_take]
        rw [if_neg (by omega), if_pos (by omega), hw1, if_pos (by omega), if_pos (by omega), rdR_get l i hlt, hrd]
        by_cases c : l[i].f1 > (ofI (M[n - 1]'(by omega))).f1
        · rw [if_pos c]
          exact h1 ((beh_last M hM n (by omega) hn _).2 c)
        · rw [if_neg c]
          exact h2 (fun hb => c ((beh_last M hM n (by omega) hn _).1 hb))
    by_cases hb : BehI M n l[i].f1
    · rcases ho with ⟨rfl, hno⟩ | ⟨a, ha, hai, rfl, hba, hmin⟩
      · refine hstep i (.inr ⟨i, hlt, by omega, rfl, hb, fun j hj hji hbj => ?_⟩) (hun _ (fun _ => ?_) (fun h => absurd hb h))
        · by_cases e : j = i
          · subst e; omega
          · exact absurd hbj (hno j hj (by omega))
        · rw [if_pos (by omega), hw]
      · by_cases hc : l[i].f1 < l[a].f1
        · refine hstep i (.inr ⟨i, hlt, by omega, rfl, hb, fun j hj hji hbj => ?_⟩) (hun _ (fun _ => ?_) (fun h => absurd hb h))
          · by_cases e : j = i
            · subst e; omega
            · have := hmin j hj (by omega) hbj; omega
          · rw [if_neg (by omega), if_pos (by omega), if_pos (by omega), rdR_get l a ha, if_pos hc, hw]
        · refine hstep a (.inr ⟨a, ha, by omega, rfl, hba, fun j hj hji hbj => ?_⟩) (hun _ (fun _ => ?_) (fun h => absurd hb h))
          · by_cases e : j = i
            · subst e; omega
            · exact hmin j hj (by omega) hbj
          · rw [if_neg (by omega), if_pos (by omega), if_pos (by omega), rdR_get l a ha, if_neg hc, hw]
    · refine hstep nx ?_ (hun _ (fun h => absurd h hb) (fun _ => by rw [hw]))
      rcases ho with ⟨rfl, hno⟩ | ⟨a, ha, hai, rfl, hba, hmin⟩
      · refine .inl ⟨rfl, fun j hj hji => ?_⟩
        by_cases e : j = i
        · subst e; exact hb
        · exact hno j hj (by omega)
      · refine .inr ⟨a, ha, by omega, rfl, hba, fun j hj hji hbj => ?_⟩
        by_cases e : j = i
        · subst e; exact absurd hbj hb
        · exact hmin j hj (by omega) hbj
theorem outer_loop (l : List S25) (hl : l.length ≤ 100000) : ∀ (d n k : Nat), n + d = (newestL (l.map toI)).length → (d + 1) * (l.length + 3) ≤ k →
    sheetpileref15_Newest.l0 k l (((newestL (l.map toI)).take n).map ofI) = some ((newestL (l.map toI)).map ofI) := by
  intro d
  have hM := newestL_up (l.map toI)
  have hml : (newestL (l.map toI)).length ≤ l.length := by have := newestL_len (l.map toI); rwa [List.length_map] at this
  have hmem := newest_mem (l.map toI)
  have hhas := newest_has (l.map toI)
  obtain ⟨M, hMd⟩ : ∃ M, M = newestL (l.map toI) := ⟨_, rfl⟩
  have hfind := fun (k : Nat) (hk : l.length + 1 ≤ k) (y : S44) (hy : y ∈ newestL (l.map toI)) => rnewest_f l (by omega) k hk y hy
  rw [← hMd] at hM hml hmem hhas hfind ⊢
  clear hMd
  induction d with
  | zero =>
    intro n k hn hk
    obtain ⟨k, rfl⟩ : ∃ k', k = k' + 1 + l.length + 1 := ⟨k - (l.length + 2), by omega⟩
    rw [sheetpileref15_Newest.l0]
    obtain ⟨nx, ho, e⟩ := inner_loop l (by omega) M hM n (by omega) (by omega) l.length (k + 1) 0 (-1) (by omega) (.inl ⟨rfl, fun j h hj => by omega⟩)
    rw [show ((0 : Nat) : Int) = 0 from rfl] at e
    rw [e, sheetpileref15_Newest.l1, if_neg (by omega)]
    rcases ho with ⟨rfl, _⟩ | ⟨a, ha, _, rfl, hb, _⟩
    · rw [if_pos (by omega), List.take_of_length_le (by omega)]
    · exfalso
      obtain ⟨y, hy, he⟩ := hhas (toI l[a]) (List.mem_map.2 ⟨l[a], List.getElem_mem ha, rfl⟩)
      have := hb y (by rw [List.take_of_length_le (by omega)]; exact hy)
      rw [he] at this
      exact absurd this (by show ¬ l[a].f1 < l[a].f1; omega)
  | succ d ih =>
    intro n k hn hk
    have hnl : n < M.length := by omega
    have hk2 : (d + 1) * (l.length + 3) + (l.length + 3) ≤ k := by
      have : (d + 1 + 1) * (l.length + 3) = (d + 1) * (l.length + 3) + (l.length + 3) := by rw [Nat.add_mul (d + 1) 1, Nat.one_mul]
      omega
    have hk3 : l.length + 3 ≤ (d + 1) * (l.length + 3) := Nat.le_mul_of_pos_left _ (by omega)
    obtain ⟨k, rfl⟩ : ∃ k', k = k' + 1 + l.length + 1 := ⟨k - (l.length + 2), by omega⟩
    rw [sheetpileref15_Newest.l0]
    obtain ⟨nx, ho, e⟩ := inner_loop l (by omega) M hM n (by omega) (by omega) l.length (k + 1) 0 (-1) (by omega) (.inl ⟨rfl, fun j h hj => by omega⟩)
    rw [show ((0 : Nat) : Int) = 0 from rfl] at e
    rw [e, sheetpileref15_Newest.l1, if_neg (by omega)]
    have hbn : BehI M n M[n].f1 := fun y hy => by
      rw [List.mem_take_iff_getElem] at hy
      obtain ⟨j, hj, rfl⟩ := hy
      exact List.pairwise_iff_getElem.1 hM j n (by omega) hnl (by omega)
    obtain ⟨q, hq, hqe⟩ := List.mem_map.1 (hmem M[n] (List.getElem_mem hnl))
    obtain ⟨b, hb, hbe⟩ := List.getElem_of_mem hq
    have hbf : l[b].f1 = M[n].f1 := by rw [hbe, ← hqe]; rfl
    rcases ho with ⟨rfl, hno⟩ | ⟨a, ha, _, rfl, hba, hmin⟩
    · exact absurd (by rw [hbf]; exact hbn) (hno b hb hb)
    · have hle := hmin b hb hb (by rw [hbf]; exact hbn)
      obtain ⟨y, hy, he⟩ := hhas (toI l[a]) (List.mem_map.2 ⟨l[a], List.getElem_mem ha, rfl⟩)
      obtain ⟨j, hj, hje⟩ := List.getElem_of_mem hy
      have hjn : n ≤ j := by
        rcases Nat.lt_or_ge j n with h | h
        · exfalso
          have := hba M[j] (by rw [List.mem_take_iff_getElem]; exact ⟨j, by omega, rfl⟩)
          rw [hje, he] at this
          exact absurd this (by show ¬ l[a].f1 < l[a].f1; omega)
        · exact h
      have hnj : M[n].f1 ≤ M[j].f1 := by
        by_cases c : n = j
        · subst c; omega
        · have := List.pairwise_iff_getElem.1 hM n j hnl hj (by omega); omega
      have haf : l[a].f1 = M[n].f1 := by
        have h1 : M[j].f1 = l[a].f1 := by rw [hje, he]; rfl
        omega
      obtain ⟨c, hc, hce, hct⟩ := hfind k (by omega) M[n] (List.getElem_mem hnl)
      rw [if_neg (by omega), if_pos (by omega), if_pos (by omega), rdR_get l a ha, haf, hce, Option.bind_some, if_pos (by omega), if_pos (by omega), if_pos (by rw [List.length_map, List.length_take]; omega), rdR_get l c hc]
      have e4 : (M.take n).map ofI ++ [(⟨l[c].f0, l[c].f1, l[c].f2⟩ : S25)] = (M.take (n + 1)).map ofI := by
        rw [List.take_succ_eq_append_getElem hnl, List.map_append, ← hct]; rfl
      rw [e4]
      exact ih (n + 1) k (by omega) (by omega)
theorem ref_Newest_f (l : List S25) (hl : l.length ≤ 100000) (k : Nat) (hk : (l.length + 1) * (l.length + 3) ≤ k) : sheetpileref15_Newest.f k l = some ((newestL (l.map toI)).map ofI) := by
  have hml : (newestL (l.map toI)).length ≤ l.length := by have := newestL_len (l.map toI); rwa [List.length_map] at this
  exact outer_loop l hl (newestL (l.map toI)).length 0 k (by omega) (Nat.le_trans (Nat.mul_le_mul_right _ (by omega)) hk)
theorem ring_Newest_f (l : List S44) (hl : l.length ≤ 100000) (hw : ∀ x ∈ l, (Lit.int .i64 x.f1).wf = true) : ring_Newest.f l = some (newestL l) := by
  unfold ring_Newest.f
  rw [if_pos ⟨hl, List.all_eq_true.2 (fun x hx => hw x hx)⟩]
end Go.Proofs.Ytmnpejoolbipeaa.Pure
