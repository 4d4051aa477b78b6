/- What is quoted is plain, and is unquoted as it was; what is unquoted is quoted as it was. -/
import Derived.Test.YtdkaokjnfkfngaaPKeyx4
import Derived.Test.YtdkaokjnfkfngaaPureKeyBase
namespace Go.Proofs.Ytdkaokjnfkfngaa.Pure
set_option linter.unusedVariables false
set_option linter.unusedSimpArgs false
open Go.RowKit Go.Proofs.Ytdkaokjnfkfngaa.PKey Go.Proofs.Ytdkaokjnfkfngaa.Given Go.Proofs.Ytdkaokjnfkfngaa.Bs Go.Proofs.Ytdkaokjnfkfngaa.KeyPlain Go.Proofs.Ytdkaokjnfkfngaa.RunesPlain Go.Proofs.YtdkaokjnfkfngaaW.PrintWords Go.Proofs.YtdkaokjnfkfngaaW.PrintLast
theorem quoteB_plain (c d : UInt8) (h : d ∈ quoteB c) : 32 < d.toNat ∧ d.toNat ≤ 126 := by
  have key : ∀ n : Fin 256, ∀ d ∈ quoteB (UInt8.ofNat n.val), 32 < d.toNat ∧ d.toNat ≤ 126 := by decide +kernel
  have := key ⟨c.toNat, c.toNat_lt⟩ d
  simp only [UInt8.ofNat_toNat] at this
  exact this h
theorem quoteL_plain (l : List UInt8) (d : UInt8) (h : d ∈ quoteL l) : 32 < d.toNat ∧ d.toNat ≤ 126 := by
  unfold quoteL at h
  split at h
  · simp at h; subst h; decide
  · obtain ⟨c, _, hc⟩ := List.mem_flatMap.1 h
    exact quoteB_plain c d hc
theorem quoteB_ne (c : UInt8) : quoteB c ≠ [] := by unfold quoteB; split <;> simp
theorem quoteL_ne (l : List UInt8) : quoteL l ≠ [] := by
  unfold quoteL
  split
  · simp
  · rename_i h
    cases l with
    | nil => exact absurd rfl h
    | cons c l => simp [quoteB_ne]
theorem quoteB_un (c : UInt8) (r acc : List UInt8) : unqA (quoteB c ++ r) acc = unqA r (acc ++ [c]) := by
  by_cases h : 32 < c.toNat ∧ c.toNat < 127 ∧ c.toNat ≠ 37
  · have e : quoteB c = [c] := if_pos h
    rw [e]
    exact unqA_ne c r acc (fun hc => h.2.2 (by rw [hc]; rfl))
  · have e : quoteB c = [37, hexB (c.toNat / 16), hexB (c.toNat % 16)] := if_neg h
    have hc := c.toNat_lt
    have hv_hex : ∀ n : Fin 16, hv (hexB n.val) = n.val := by decide +kernel
    have h1 := hv_hex ⟨c.toNat / 16, by omega⟩
    have h2 := hv_hex ⟨c.toNat % 16, by omega⟩
    simp only at h1 h2
    rw [e]
    show unqA (37 :: hexB (c.toNat / 16) :: hexB (c.toNat % 16) :: r) acc = _
    rw [unqA, if_pos rfl, h1, h2, if_neg (by omega)]
    have e2 : 16 * ((c.toNat / 16 : Nat) : Int).toNat + ((c.toNat % 16 : Nat) : Int).toNat = c.toNat := by simp; omega
    rw [e2, UInt8.ofNat_toNat]
theorem flat_un (l acc : List UInt8) : unqA (l.flatMap quoteB) acc = some (acc ++ l) := by
  induction l generalizing acc with
  | nil => simp [unqA]
  | cons c l ih => rw [List.flatMap_cons, quoteB_un, ih]; simp
theorem flat_mark (l : List UInt8) (h : l ≠ []) : l.flatMap quoteB ≠ [37] := by
  intro e
  have := flat_un l []
  rw [e] at this
  simp [unqA] at this
theorem unq_quote (l : List UInt8) : unqF (quoteL l) = (l, 0) := by
  by_cases h : l = []
  · subst h; rfl
  · have e : quoteL l = l.flatMap quoteB := if_neg h
    unfold unqF
    rw [e, if_neg (flat_mark l h), flat_un]
    simp only [List.nil_append]
    rw [e, if_pos rfl]
theorem unq_ok (s : List UInt8) (h : (unqF s).2 = 0) : quoteL (unqF s).1 = s := by
  unfold unqF at h ⊢
  by_cases h1 : s = [37]
  · rw [if_pos h1, h1]; rfl
  · rw [if_neg h1] at h ⊢
    cases hu : unqA s [] with
    | none => rw [hu] at h; cases h
    | some out =>
      rw [hu] at h
      simp only at h ⊢
      by_cases h2 : quoteL out = s
      · rw [if_pos h2]; exact h2
      · rw [if_neg h2] at h; cases h
theorem unq_len (s : List UInt8) : (unqF s).1.length ≤ s.length := by
  have flat_ge : ∀ l : List UInt8, l.length ≤ (l.flatMap quoteB).length := by
    intro l
    induction l with
    | nil => simp
    | cons c l ih =>
      have : 1 ≤ (quoteB c).length := List.length_pos_iff.2 (quoteB_ne c)
      simp only [List.flatMap_cons, List.length_append, List.length_cons]; omega
  by_cases h : (unqF s).2 = 0
  · have := unq_ok s h
    generalize (unqF s).1 = v at this
    subst this
    unfold quoteL
    split
    · rename_i e; rw [e]; simp
    · exact flat_ge v
  · have : (unqF s).1 = [] := by
      unfold unqF at h ⊢
      by_cases h1 : s = [37]
      · rw [if_pos h1]
      · rw [if_neg h1] at h ⊢
        cases hu : unqA s [] with
        | none => rfl
        | some out =>
          rw [hu] at h
          simp only at h ⊢
          by_cases h2 : quoteL out = s
          · rw [if_pos h2] at h; exact absurd rfl h
          · rw [if_neg h2]
    rw [this]; simp
theorem quote_len (l : List UInt8) : (quoteL l).length ≤ 3 * l.length + 1 := by
  unfold quoteL
  split
  · simp
  · have := flat_len l; omega
theorem back_loop (s q : List UInt8) (hs : s.length ≤ 1000) (hq : q = quoteL s) : ∀ d k i : Nat, i + d = q.length → d + 80 ≤ k →
    sheetpilelaw08_KeyBack.l0 k (bs s) (bs q) (i : Int) = some true
  | 0, k, i, hi, hk => by
    obtain ⟨k, rfl⟩ : ∃ j, k = j + 1 := ⟨k - 1, by omega⟩
    have hql := quote_len s
    rw [sheetpilelaw08_KeyBack.l0, bs_size, if_neg (by omega), key_Unquote_f q (by rw [hq]; omega), key_Unquote_f s (by omega), live08 k (by omega), bs_toList, bs_toList]
    have hne : q ≠ [] := by rw [hq]; exact quoteL_ne s
    have hu : unqF q = (s, 0) := by rw [hq]; exact unq_quote s
    rw [hu]
    simp only [Option.bind_some, bs_toList, if_neg hne, if_true]
    by_cases h0 : (unqF s).2 = 0
    · have hul := unq_len s
      rw [if_pos h0, key_Quote_f _ (by omega)]
      simp only [Option.bind_some, bs_toList, unq_ok s h0, if_true]
    · rw [if_neg h0]
  | d + 1, k, i, hi, hk => by
    obtain ⟨k, rfl⟩ : ∃ j, k = j + 1 := ⟨k - 1, by omega⟩
    have hlt : i < q.length := by omega
    have hql := quote_len s
    have hp := quoteL_plain s q[i] (by rw [← hq]; exact List.getElem_mem hlt)
    rw [sheetpilelaw08_KeyBack.l0, bs_size, if_pos (by omega), if_pos (by omega), bt_bs q i hlt, if_neg (by omega), if_neg (by omega)]
    have hw : wrap64 ((i : Int) + 1) = ((i + 1 : Nat) : Int) := wrap_succ i q.length hlt (by rw [hq]; omega)
    rw [hw]
    exact back_loop s q hs hq d k (i + 1) (by omega) (by omega)
theorem KeyBack : sheetpilelaw08_KeyBack.Pure := by
  intro a0 h0
  obtain ⟨s, rfl⟩ := ex_bs a0
  obtain ⟨K, hK⟩ : ∃ K, K = 5000 := ⟨_, rfl⟩
  refine ⟨K, ?_⟩
  unfold sheetpilelaw08_KeyBack.f
  rw [bs_size]
  by_cases ha : (s.length : Int) > 1000
  · rw [if_pos ha, live08 K (by omega)]; rfl
  · rw [if_neg ha, key_Quote_f s (by omega), Option.bind_some]
    have hql := quote_len s
    exact back_loop s (quoteL s) (by omega) rfl (quoteL s).length K 0 (by omega) (by omega)
end Go.Proofs.Ytdkaokjnfkfngaa.Pure
