/- What is written is read; what is read was written; without its end it is cut. -/
import Derived.Test.YtcgbjkjacpeheaaPFrx2
import Derived.Test.YtcgbjkjacpeheaaPFrx10
import Derived.Test.YtcgbjkjacpeheaaPFrx5
import Derived.Test.YtcgbjkjacpeheaaPFrx6
import Derived.Test.YtcgbjkjacpeheaaPFrx7
import Derived.Test.YtcgbjkjacpeheaaPureFrE
namespace Go.Proofs.Ytcgbjkjacpeheaa.Pure
set_option linter.unusedVariables false
set_option linter.unusedSimpArgs false
open Go.RowKit Go.Proofs.Ytcgbjkjacpeheaa.PFr Go.Proofs.Ytcgbjkjacpeheaa.Given Go.Proofs.Ytcgbjkjacpeheaa.Bs Go.Proofs.Ytcgbjkjacpeheaa.WirePlain Go.Proofs.Ytcgbjkjacpeheaa.KeyPlain Go.Proofs.Ytcgbjkjacpeheaa.RunesPlain Go.Proofs.Ytcgbjkjacpeheaa.CrcPlain Go.Proofs.YtcgbjkjacpeheaaW.PrintWords Go.Proofs.YtcgbjkjacpeheaaW.PrintLast Go.Proofs.YtcgbjkjacpeheaaW.PrintMore
theorem checkAll_mem : ∀ (l : List S62), checkAll l = 0 → ∀ c ∈ l, checkC c = 0
  | [], _, c, hc => by simp at hc
  | d :: l, h, c, hc => by
    rw [checkAll_cons] at h
    by_cases h0 : checkC d = 0
    · rw [if_pos h0] at h
      rcases List.mem_cons.1 hc with rfl | hc
      · exact h0
      · exact checkAll_mem l h c hc
    · rw [if_neg h0] at h; exact absurd h h0
theorem checkL_all {l : List S62} (h : checkL l = 0) : checkAll l = 0 ∧ l ≠ [] := by
  unfold checkL at h
  split at h
  · simp at h
  · split at h
    · split at h
      · simp at h
      · exact ⟨by assumption, by assumption⟩
    · exact absurd h (by assumption)
theorem checkL_mem {l : List S62} (h : checkL l = 0) : ∀ c ∈ l, checkC c = 0 := checkAll_mem l (checkL_all h).1
theorem empty_of {a : ByteArray} (h : a.toList = []) : a = ⟨#[]⟩ := by
  rw [bs_of a]; rw [toList_nil] at h; rw [h]; rfl
theorem checkC_ok {c : S62} (h : checkC c = 0) : c.f1.size ≤ 1024 ∧ (c.f2 = true → c.f1 = ⟨#[]⟩) := by
  unfold checkC at h
  split at h
  · split at h
    · simp at h
    · rename_i h1
      refine ⟨by omega, fun h2 => ?_⟩
      rw [if_pos h2] at h
      split at h
      · exact empty_of (by assumption)
      · simp at h
  · exact absurd h (by assumption)
/-- Changes as they are written: a text has fewer than 65536 bytes, what is gone has no value. -/
def NormL (l : List S62) : Prop := ∀ c ∈ l, c.f0.size ≤ 65535 ∧ c.f1.size ≤ 65535 ∧ (c.f2 = true → c.f1 = ⟨#[]⟩)
theorem normL_of {l : List S62} (h : checkL l = 0) (hs : ∀ c ∈ l, c.f0.size ≤ 65535) : NormL l := fun c hc => by
  have := checkC_ok (checkL_mem h c hc)
  exact ⟨hs c hc, by omega, this.2⟩
theorem takeL_tx (a : ByteArray) (m : List UInt8) (h : a.size ≤ 65535) : takeL (txL a ++ m) = (a.data.toList, m, 0) := by
  unfold txL
  have := takeL_text a.data.toList m (by rw [data_length]; omega)
  rw [data_length] at this
  exact this
theorem bodyL_cons (c : S62) (l : List S62) : bodyL (c :: l) = chB txL c ++ bodyL l := rfl
theorem parse_body : ∀ (l : List S62), NormL l → parseL (bodyL l) = some l
  | [], _ => by show parseL [] = _; rw [parseL]
  | c :: l, h => by
    have h1 := h c List.mem_cons_self
    have h2 := parse_body l (fun c hc => h c (List.mem_cons_of_mem _ hc))
    rw [bodyL_cons]
    obtain ⟨f0, f1, f2⟩ := c
    cases f2 with
    | true =>
      obtain rfl : f1 = ⟨#[]⟩ := h1.2.2 rfl
      show parseL ((1 :: txL f0) ++ bodyL l) = _
      rw [List.cons_append, parseL, takeL_tx f0 _ h1.1]
      simp only [if_true]
      rw [if_neg (by decide), h2, ← bs_of]; rfl
    | false =>
      show parseL ((0 :: (txL f0 ++ txL f1)) ++ bodyL l) = _
      rw [List.cons_append, List.append_assoc, parseL, takeL_tx f0 _ h1.1]
      simp only [if_true]
      rw [takeL_tx f1 _ h1.2.1]
      simp only [if_true]
      rw [h2, ← bs_of, ← bs_of]; rfl
theorem tx_of {m a b : List UInt8} (h : takeL m = (a, b, 0)) : m = txL (bs a) ++ b ∧ (bs a).size ≤ 65535 := by
  obtain ⟨h1, h2⟩ := takeL_back h
  refine ⟨?_, by rw [bs_size]; omega⟩
  unfold txL
  rw [bs_size, bs_data]; exact h1
theorem takeL_ok {m : List UInt8} (h : (takeL m).2.2 = 0) : takeL m = ((takeL m).1, (takeL m).2.1, 0) := by rw [← h]
theorem parse_back : ∀ (n : Nat) (s : List UInt8) (cs : List S62), s.length ≤ n → parseL s = some cs → s = bodyL cs ∧ NormL cs := by
  intro n
  induction n with
  | zero =>
    intro s cs hs h
    obtain rfl : s = [] := List.eq_nil_of_length_eq_zero (by omega)
    rw [parseL] at h
    obtain rfl := Option.some.inj h
    exact ⟨rfl, fun c hc => by simp at hc⟩
  | succ n ih =>
    intro s cs hs h
    cases s with
    | nil => rw [parseL] at h; obtain rfl := Option.some.inj h; exact ⟨rfl, fun c hc => by simp at hc⟩
    | cons b m =>
      have hm : m.length ≤ n := by simpa using hs
      have h1 := takeL_len m
      have h2 := takeL_len (takeL m).2.1
      rw [parseL] at h
      split at h
      · rename_i t1
        obtain ⟨e1, z1⟩ := tx_of (takeL_ok t1)
        split at h
        · rename_i b0
          split at h
          · rename_i t2
            obtain ⟨e2, z2⟩ := tx_of (takeL_ok t2)
            cases hp : parseL (takeL (takeL m).2.1).2.1 with
            | none => rw [hp] at h; simp at h
            | some r =>
              rw [hp] at h
              simp only [Option.map_some, Option.some.injEq] at h
              subst h
              obtain ⟨e3, z3⟩ := ih _ r (by omega) hp
              refine ⟨?_, ?_⟩
              · rw [bodyL_cons, ← e3, b0]
                show 0 :: m = 0 :: (txL _ ++ txL _) ++ _
                rw [List.cons_append, List.append_assoc]
                congr 1
                exact e1.trans (congrArg (txL (bs (takeL m).1) ++ ·) e2)
              · intro c hc
                rcases List.mem_cons.1 hc with rfl | hc
                · exact ⟨z1, z2, fun hx => by cases hx⟩
                · exact z3 c hc
          · cases h
        · split at h
          · rename_i b1
            cases hp : parseL (takeL m).2.1 with
            | none => rw [hp] at h; simp at h
            | some r =>
              rw [hp] at h
              simp only [Option.map_some, Option.some.injEq] at h
              subst h
              obtain ⟨e3, z3⟩ := ih _ r (by omega) hp
              refine ⟨?_, ?_⟩
              · rw [bodyL_cons, ← e3, b1]
                show 1 :: m = 1 :: txL _ ++ _
                rw [List.cons_append]
                congr 1
              · intro c hc
                rcases List.mem_cons.1 hc with rfl | hc
                · exact ⟨z1, by show (0 : Nat) ≤ 65535; omega, fun _ => rfl⟩
                · exact z3 c hc
          · cases h
      · cases h
theorem normL_sizes {l : List S62} (h : NormL l) : ∀ c ∈ l, c.f0.size ≤ 65535 ∧ c.f1.size ≤ 65535 := fun c hc => ⟨(h c hc).1, (h c hc).2.1⟩
theorem readG_frame (seq : Nat) (l : List S62) (rest : List UInt8) (hq : seq < 4294967296) (hc : checkL l = 0) (hn : NormL l) :
    readG (lowB 4 seq ++ (lowB 4 (bodyL l).length ++ (bodyL l ++ (lowB 4 (more 0 (headL seq l)) ++ rest)))) = ((seq : Int), l, rest, 0) := by
  have hlen := checkL_len hc
  have hb := bodyL_len l (normL_sizes hn)
  have hm := more_lt (s := 0) (by decide) (headL seq l)
  have ls := lowB_length 4 seq
  have ll := lowB_length 4 (bodyL l).length
  have lm := lowB_length 4 (more 0 (headL seq l))
  have e1 : ∀ x, (lowB 4 seq ++ x).take 4 = lowB 4 seq := fun x => List.take_left' ls
  have e2 : ∀ x, (lowB 4 seq ++ x).drop 4 = x := fun x => List.drop_left' ls
  have e3 : ∀ x, (lowB 4 (bodyL l).length ++ x).take 4 = lowB 4 (bodyL l).length := fun x => List.take_left' ll
  have e4 : ∀ x, (lowB 4 (bodyL l).length ++ x).drop 4 = x := fun x => List.drop_left' ll
  have n1 := lowN_lowB_lt (s := 4) (n := seq) (by rw [pow4]; omega)
  have n2 := lowN_lowB_lt (s := 4) (n := (bodyL l).length) (by rw [pow4]; omega)
  have n3 := lowN_lowB_lt (s := 4) (n := more 0 (headL seq l)) (by rw [pow4]; omega)
  have d8 : ∀ x, (lowB 4 seq ++ (lowB 4 (bodyL l).length ++ x)).drop 8 = x := fun x => by
    rw [show 8 = 4 + 4 from rfl, ← List.drop_drop, e2, e4]
  have dn : ∀ x, (lowB 4 seq ++ (lowB 4 (bodyL l).length ++ (bodyL l ++ x))).drop (8 + (bodyL l).length) = x := fun x => by
    rw [← List.drop_drop, d8, List.drop_left]
  unfold readG
  rw [if_neg (by simp only [List.length_append, ls, ll]; omega), e2, e3, n2, if_neg (by simp only [List.length_append, ls, ll, lm]; omega), dn, List.take_left' lm, n3, d8, List.take_left, parse_body l hn, e1, n1]
  have hh : (lowB 4 seq ++ (lowB 4 (bodyL l).length ++ (bodyL l ++ (lowB 4 (more 0 (headL seq l)) ++ rest)))).take (8 + (bodyL l).length) = lowB 4 seq ++ (lowB 4 (bodyL l).length ++ bodyL l) := by
    have : lowB 4 seq ++ (lowB 4 (bodyL l).length ++ (bodyL l ++ (lowB 4 (more 0 (headL seq l)) ++ rest))) = (lowB 4 seq ++ (lowB 4 (bodyL l).length ++ bodyL l)) ++ (lowB 4 (more 0 (headL seq l)) ++ rest) := by simp only [List.append_assoc]
    rw [this, List.take_left' (by simp only [List.length_append, ls, ll]; omega)]
  rw [hh]
  have hg : 71 :: (lowB 4 seq ++ (lowB 4 (bodyL l).length ++ bodyL l)) = headL seq l := rfl
  rw [hg, if_neg (by simp)]
  simp only [hc, if_true]
  rw [show 12 + (bodyL l).length = 8 + (bodyL l).length + 4 by omega, ← List.drop_drop, dn, List.drop_left' lm]
theorem frame_app (seq : Nat) (l : List S62) (rest : List UInt8) : frameL seq l ++ rest = 71 :: (lowB 4 seq ++ (lowB 4 (bodyL l).length ++ (bodyL l ++ (lowB 4 (more 0 (headL seq l)) ++ rest)))) := by
  unfold frameL
  conv => lhs; rw [show headL seq l = 71 :: (lowB 4 seq ++ (lowB 4 (bodyL l).length ++ bodyL l)) from rfl]
  simp only [List.cons_append, List.append_assoc]
  rfl
theorem readF_frame (seq : Nat) (l : List S62) (rest : List UInt8) (hq : seq < 4294967296) (hc : checkL l = 0) (hn : NormL l) : readF (frameL seq l ++ rest) = ((seq : Int), l, rest, 0) := by
  rw [frame_app]
  unfold readF
  rw [if_neg (by simp), if_pos (by rfl)]
  exact readG_frame seq l rest hq hc hn
theorem frameL_length (seq : Nat) (l : List S62) : (frameL seq l).length = (bodyL l).length + 13 := by
  unfold frameL headL
  simp only [List.length_append, List.length_cons, lowB_length]; omega
theorem readF_cut (seq : Nat) (l : List S62) (n : Nat) (hb : (bodyL l).length < 4294967296) (hn : n < (frameL seq l).length) : readF ((frameL seq l).take n) = (0, [], [], 4) := by
  rw [frameL_length] at hn
  cases n with
  | zero => rfl
  | succ n =>
    have hf : frameL seq l = 71 :: (lowB 4 seq ++ (lowB 4 (bodyL l).length ++ (bodyL l ++ lowB 4 (more 0 (headL seq l))))) := by
      have := frame_app seq l []
      simpa using this
    have hh : (frameL seq l).take (n + 1) = 71 :: (lowB 4 seq ++ (lowB 4 (bodyL l).length ++ (bodyL l ++ lowB 4 (more 0 (headL seq l))))).take n := by
      rw [hf, List.take_succ_cons]
    have hl : (lowB 4 seq ++ (lowB 4 (bodyL l).length ++ (bodyL l ++ lowB 4 (more 0 (headL seq l))))).length = (bodyL l).length + 12 := by
      simp only [List.length_append, lowB_length]; omega
    rw [hh]
    unfold readF
    rw [if_neg (by simp), if_pos (by rfl), List.drop_succ_cons, List.drop_zero]
    unfold readG
    rw [List.length_take, hl]
    by_cases h8 : n < 8
    · rw [if_pos (by omega)]
    · rw [if_neg (by omega)]
      have e : (((lowB 4 seq ++ (lowB 4 (bodyL l).length ++ (bodyL l ++ lowB 4 (more 0 (headL seq l))))).take n).drop 4).take 4 = lowB 4 (bodyL l).length := by
        rw [List.drop_take, List.drop_left' (lowB_length 4 seq), List.take_take, Nat.min_eq_left (by omega), List.take_left' (lowB_length 4 _)]
      rw [e, lowN_lowB_lt (by rw [pow4]; omega), if_pos (by omega)]
theorem readG_back {r : List UInt8} {q : Int} {cs : List S62} {left : List UInt8} (h : readG r = (q, cs, left, 0)) :
    ∃ seq : Nat, q = seq ∧ seq < 4294967296 ∧ checkL cs = 0 ∧ NormL cs ∧ 71 :: r = frameL seq cs ++ left := by
  unfold readG at h
  have hn := low4 (r.drop 4)
  have h4 := low4 r
  split at h
  · simp at h
  · rename_i h8
    split at h
    · simp at h
    · rename_i hN
      split at h
      · simp at h
      · rename_i hs
        have hs := Classical.not_not.1 hs
        cases hp : parseL ((r.drop 8).take (lowN ((r.drop 4).take 4))) with
        | none => rw [hp] at h; simp at h
        | some c =>
          rw [hp] at h
          simp only [] at h
          split at h
          · rename_i hc
            simp only [Prod.mk.injEq, and_true] at h
            obtain ⟨rfl, rfl, rfl⟩ := h
            obtain ⟨e1, z1⟩ := parse_back _ _ _ (Nat.le_refl _) hp
            refine ⟨lowN (r.take 4), rfl, h4, hc, z1, ?_⟩
            generalize hnn : lowN ((r.drop 4).take 4) = n at *
            have hbl : (bodyL c).length = n := by rw [← e1, List.length_take, List.length_drop]; omega
            have b1 : lowB 4 (lowN (r.take 4)) = r.take 4 := by
              have := lowB_lowN (r.take 4)
              rwa [show (r.take 4).length = 4 by rw [List.length_take]; omega] at this
            have b2 : lowB 4 n = (r.drop 4).take 4 := by
              have := lowB_lowN ((r.drop 4).take 4)
              rwa [show ((r.drop 4).take 4).length = 4 by rw [List.length_take, List.length_drop]; omega, hnn] at this
            have b3 : lowB 4 (lowN ((r.drop (8 + n)).take 4)) = (r.drop (8 + n)).take 4 := by
              have := lowB_lowN ((r.drop (8 + n)).take 4)
              rwa [show ((r.drop (8 + n)).take 4).length = 4 by rw [List.length_take, List.length_drop]; omega] at this
            have t8 : r.take (8 + n) = r.take 4 ++ ((r.drop 4).take 4 ++ (r.drop 8).take n) := by
              rw [show 8 + n = 4 + (4 + n) by omega, List.take_add, List.take_add, List.drop_drop]
            have hh : headL (lowN (r.take 4)) c = 71 :: r.take (8 + n) := by
              unfold headL
              rw [b1, hbl, b2, ← e1, t8]
            have hf : frameL (lowN (r.take 4)) c = 71 :: r.take (8 + n) ++ (r.drop (8 + n)).take 4 := by
              unfold frameL
              rw [hh, ← hs, b3]
            rw [hf, List.cons_append, List.cons_append, List.append_assoc, show 12 + n = 8 + n + 4 by omega, ← List.drop_drop (i := 4) (j := 8 + n), List.take_append_drop, List.take_append_drop]
          · simp at h
theorem readF_back {l : List UInt8} {q : Int} {cs : List S62} {left : List UInt8} (h : readF l = (q, cs, left, 0)) :
    ∃ seq : Nat, q = seq ∧ seq < 4294967296 ∧ checkL cs = 0 ∧ NormL cs ∧ l = frameL seq cs ++ left := by
  unfold readF at h
  split at h
  · simp at h
  · rename_i h0
    split at h
    · rename_i hp
      have hr : l = 71 :: l.drop 1 := by
        cases l with
        | nil => exact absurd rfl h0
        | cons c m => simp at hp; rw [hp]; rfl
      obtain ⟨seq, h1, h2, h3, h4, h5⟩ := readG_back h
      exact ⟨seq, h1, h2, h3, h4, hr.trans h5⟩
    · simp at h
theorem readG_err (r : List UInt8) : (readG r).2.2.2 = 0 ∨ ((readG r).2.1 = [] ∧ (readG r).2.2.1 = [] ∧ (readG r).1 = 0) := by
  unfold readG
  split
  · exact .inr ⟨rfl, rfl, rfl⟩
  · split
    · exact .inr ⟨rfl, rfl, rfl⟩
    · split
      · exact .inr ⟨rfl, rfl, rfl⟩
      · split
        · exact .inr ⟨rfl, rfl, rfl⟩
        · split
          · exact .inl rfl
          · exact .inr ⟨rfl, rfl, rfl⟩
theorem readF_err (l : List UInt8) : (readF l).2.2.2 = 0 ∨ ((readF l).2.1 = [] ∧ (readF l).2.2.1 = [] ∧ (readF l).1 = 0) := by
  unfold readF
  split
  · exact .inr ⟨rfl, rfl, rfl⟩
  · split
    · exact readG_err _
    · exact .inr ⟨rfl, rfl, rfl⟩
end Go.Proofs.Ytcgbjkjacpeheaa.Pure
