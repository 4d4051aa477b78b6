/- Groups' bytes that are cut short give the groups that lie whole in them; of at most 20 groups. -/
import Derived.Test.YtcgbjkjacpeheaaPFrx21
import Derived.Test.YtcgbjkjacpeheaaPureSc20
namespace Go.Proofs.Ytcgbjkjacpeheaa.Pure
set_option linter.unusedVariables false
set_option linter.unusedSimpArgs false
open Go.RowKit Go.Proofs.Ytcgbjkjacpeheaa.PFr Go.Proofs.Ytcgbjkjacpeheaa.Given Go.Proofs.Ytcgbjkjacpeheaa.Bs Go.Proofs.Ytcgbjkjacpeheaa.WirePlain Go.Proofs.Ytcgbjkjacpeheaa.KeyPlain Go.Proofs.Ytcgbjkjacpeheaa.RunesPlain Go.Proofs.Ytcgbjkjacpeheaa.CrcPlain Go.Proofs.YtcgbjkjacpeheaaW.PrintWords Go.Proofs.YtcgbjkjacpeheaaW.PrintLast Go.Proofs.YtcgbjkjacpeheaaW.PrintMore
theorem split_take : ∀ (N : List S30) (n : Nat), (∀ g ∈ N, (bodyL g.f1).length < 4294967296) →
    ∃ i rest, i ≤ N.length ∧ (framesL N).take n = framesL (N.take i) ++ rest ∧ (∀ acc, StopL acc rest) ∧ (framesL (N.take i)).length ≤ n ∧ (i < N.length → n < (framesL (N.take (i + 1))).length)
  | [], n, _ => ⟨0, [], Nat.le_refl _, by simp [framesL], stop_nil, Nat.zero_le _, fun h => absurd h (by simp)⟩
  | g :: r, n, h => by
    by_cases hn : n < (frameL g.f0.toNat g.f1).length
    · refine ⟨0, (frameL g.f0.toNat g.f1).take n, Nat.zero_le _, ?_, ?_, Nat.zero_le _, fun _ => ?_⟩
      · rw [framesL, List.take_append_of_le_length (by omega)]; rfl
      · intro acc h0
        rw [readF_cut _ _ _ (h g List.mem_cons_self) hn] at h0
        exact absurd h0 (by decide)
      · show n < (frameL g.f0.toNat g.f1 ++ []).length
        rw [List.append_nil]; exact hn
    · obtain ⟨i, rest, h1, h2, h3, h4, h5⟩ := split_take r (n - (frameL g.f0.toNat g.f1).length) (fun x hx => h x (List.mem_cons_of_mem _ hx))
      refine ⟨i + 1, rest, by rw [List.length_cons]; omega, ?_, h3, ?_, fun hi => ?_⟩
      · rw [framesL, List.take_append, List.take_of_length_le (by omega), h2, List.take_succ_cons, framesL, List.append_assoc]
      · rw [List.take_succ_cons, framesL, List.length_append]; omega
      · rw [List.length_cons] at hi
        have := h5 (by omega)
        rw [List.take_succ_cons, framesL, List.length_append]; omega
theorem frames_take_mono (N : List S30) {a b : Nat} (h : a ≤ b) : (framesL (N.take a)).length ≤ (framesL (N.take b)).length := by
  have h1 : N.take b = N.take a ++ (N.take b).drop a := by
    conv => lhs; rw [← List.take_append_drop a (N.take b)]
    rw [List.take_take, Nat.min_eq_left h]
  rw [h1, framesL_append, List.length_append]; omega
theorem frames_take_succ (N : List S30) (j : Nat) (h : j < N.length) : (framesL (N.take (j + 1))).length = (framesL (N.take j)).length + (frameL N[j].f0.toNat N[j].f1).length := by
  rw [List.take_succ_eq_append_getElem h, framesL_append, List.length_append]
  show _ + (frameL _ _ ++ []).length = _
  rw [List.append_nil]
theorem cut_l1 (x0 : Int) (x1 : List (List S62)) (hl : x1.length ≤ 20) (h0 : -9223372036854775808 ≤ x0) (hx : x0 ≤ 1152921504606846976) (hok : ∀ g ∈ numL x0 x1, OkG g) (i : Nat) (hi : i ≤ x1.length) : ∀ (d k j : Nat), j + d = i → d + 70 ≤ k →
    sheetpilelaw20_ScanCut.l1 k x0 x1 ((numL x0 x1).take i) (i : Int) (j : Int) = some true
  | 0, k, j, hj, hk => by
    obtain ⟨k, rfl⟩ : ∃ m, k = m + 1 := ⟨k - 1, by omega⟩
    rw [sheetpilelaw20_ScanCut.l1, if_neg (by omega), live20]; rfl
  | d + 1, k, j, hj, hk => by
    obtain ⟨k, rfl⟩ : ∃ m, k = m + 1 := ⟨k - 1, by omega⟩
    have hL := numL_length x1 x0
    have hlt : ((numL x0 x1).take i).length = i := by rw [List.length_take, hL]; omega
    have hrd : rd_T30 ((numL x0 x1).take i) (j : Int) = ⟨x0 + j, x1[j]'(by omega)⟩ := by
      rw [rd_get3 _ _ (by omega), List.getElem_take, numL_get x1 x0 j (by omega) (by omega)]
    have h64 : (x1[j]'(by omega)).length ≤ 64 := by
      have := hok ((numL x0 x1)[j]'(by omega)) (List.getElem_mem _)
      rw [numL_get x1 x0 j (by omega) (by omega)] at this
      exact checkL_len this.2.2
    rw [sheetpilelaw20_ScanCut.l1, if_pos (by omega), if_pos (by omega), if_pos (by omega), hrd]
    dsimp only
    rw [if_pos (wrap_id (by omega) (by omega)).symm, if_pos (by omega), rd_getL x1 j (by omega), ref19_Changes_same _ (by omega) k (by omega), Option.bind_some, if_pos rfl, wrap_succ j x1.length (by omega) (by omega)]
    exact cut_l1 x0 x1 hl h0 hx hok i hi d k (j + 1) (by omega) (by omega)
theorem cut_j3 (x0 : Int) (x1 : List (List S62)) (hl : x1.length ≤ 20) (h0 : -9223372036854775808 ≤ x0) (hx : x0 ≤ 1152921504606846976) (hok : ∀ g ∈ numL x0 x1, OkG g) (i : Nat) (hi : i ≤ x1.length) (e : Int) (k : Nat) (hk : i + 72 ≤ k) :
    sheetpilelaw20_ScanCut.j3 k x0 x1 ((numL x0 x1).take i) e e (i : Int) = some true := by
  obtain ⟨k, rfl⟩ : ∃ m, k = m + 2 := ⟨k - 2, by omega⟩
  have hL := numL_length x1 x0
  have hne : (e != e) = false := by simp
  rw [sheetpilelaw20_ScanCut.j3, if_pos (by rw [List.length_take, hL]; omega), hne, sheetpilelaw20_ScanCut.j4, if_neg (by simp)]
  exact cut_l1 x0 x1 hl h0 hx hok i hi i k 0 (by omega) (by omega)
theorem cut_l0 (x0 : Int) (x1 : List (List S62)) (hf : few20 x1) (h0 : -9223372036854775808 ≤ x0) (hx : x0 ≤ 1152921504606846976) (hok : ∀ g ∈ numL x0 x1, OkG g) (n i : Nat) (hi : i ≤ x1.length) (hn : n ≤ 7000000) (hin : (framesL ((numL x0 x1).take i)).length ≤ n)
    (hout : i < x1.length → n < (framesL ((numL x0 x1).take (i + 1))).length) : ∀ (d k j : Nat), j + d = i → d + i + 80 ≤ k →
    sheetpilelaw20_ScanCut.l0 k x0 x1 (n : Int) ((numL x0 x1).take i) ((framesL ((numL x0 x1).take i)).length : Int) ((framesL ((numL x0 x1).take j)).length : Int) (j : Int) (j : Int) = some true := by
  have hl := hf.1
  have hL := numL_length x1 x0
  have stepW : ∀ j (hj : j < x1.length), scan_Write.f (wrap64 (x0 + j)) ((x1.take (wrap64 ((j : Int) + 1)).toNat).drop (j : Int).toNat) = some (bs (frameL ((numL x0 x1)[j]'(by omega)).f0.toNat ((numL x0 x1)[j]'(by omega)).f1), 0) := fun j hj => by
    have hok1 := hok ((numL x0 x1)[j]'(by omega)) (List.getElem_mem _)
    rw [numL_get x1 x0 j (by omega) (by omega)] at hok1 ⊢
    have hdr : (x1.take (j + 1)).drop j = [x1[j]] := by
      rw [List.take_succ_eq_append_getElem hj, List.drop_left' (by rw [List.length_take]; omega)]
    have hsm : SmallL [x1[j]] := fun c hc => by
      simp only [List.mem_singleton] at hc
      subst hc
      exact small_few hf _ (List.getElem_mem _)
    rw [wrap_id (by omega) (by omega), wrap_succ j x1.length hj (by omega), Int.toNat_natCast, Int.toNat_natCast, hdr, scan_Write_f (x0 + j) [x1[j]] hsm (by omega) (by omega) (by simp), swL_good [x1[j]] (x0 + j) [] (fun g hg => by
      simp only [numL, List.mem_singleton] at hg
      subst hg
      exact hok1)]
    simp [numL, framesL]
  intro d
  induction d with
  | zero =>
    intro k j hj hk
    obtain ⟨k, rfl⟩ : ∃ m, k = m + 1 := ⟨k - 1, by omega⟩
    obtain rfl : j = i := by omega
    rw [sheetpilelaw20_ScanCut.l0]
    by_cases hjl : j < x1.length
    · have hbl := few_body hf hok (x1[j]) (List.getElem_mem _)
      have hsz : (frameL ((numL x0 x1)[j]'(by omega)).f0.toNat ((numL x0 x1)[j]'(by omega)).f1).length ≤ 200000 := by rw [frameL_length, numL_get x1 x0 j (by omega) (by omega)]; dsimp only; omega
      have hs := frames_take_succ (numL x0 x1) j (by omega)
      have ho := hout hjl
      rw [if_pos (by omega), if_pos (by omega), if_pos (by rw [wrap_succ j x1.length hjl (by omega)]; omega), if_pos (by rw [wrap_succ j x1.length hjl (by omega)]; omega), stepW j hjl, Option.bind_some]
      dsimp only
      rw [bs_size, wrap_id (by omega) (by omega), if_pos (by omega)]
      exact cut_j3 x0 x1 hl h0 hx hok j hi _ k (by omega)
    · rw [if_neg (by omega)]
      exact cut_j3 x0 x1 hl h0 hx hok j hi _ k (by omega)
  | succ d ih =>
    intro k j hj hk
    obtain ⟨k, rfl⟩ : ∃ m, k = m + 1 := ⟨k - 1, by omega⟩
    have hjl : j < x1.length := by omega
    have hs := frames_take_succ (numL x0 x1) j (by omega)
    have hm := frames_take_mono (numL x0 x1) (show j + 1 ≤ i by omega)
    rw [sheetpilelaw20_ScanCut.l0, if_pos (by omega), if_pos (by omega), if_pos (by rw [wrap_succ j x1.length hjl (by omega)]; omega), if_pos (by rw [wrap_succ j x1.length hjl (by omega)]; omega), stepW j hjl, Option.bind_some]
    dsimp only
    rw [bs_size, wrap_id (by omega) (by omega), if_neg (by omega), wrap_succ j x1.length hjl (by omega), show (((framesL ((numL x0 x1).take j)).length : Int) + ((frameL ((numL x0 x1)[j]'(by omega)).f0.toNat ((numL x0 x1)[j]'(by omega)).f1).length : Int)) = ((framesL ((numL x0 x1).take (j + 1))).length : Int) by omega]
    exact ih k (j + 1) (by omega) (by omega)
theorem ScanCut (a0 : Int) (w0 : (Lit.int .i64 a0).wf = true) (b1 : List (List S62)) (w1 : b1.length * 24 ≤ 140737488351232 ∧ ∀ z ∈ b1, z.length * 40 ≤ 140737488351232 ∧ ∀ x ∈ z, (x.f0.size ≤ 140737488351232) ∧ (x.f1.size ≤ 140737488351232) ∧ (True)) (a2 : Int) (w2 : (Lit.int .i64 a2).wf = true) : ∃ k, sheetpilelaw20_ScanCut.f k a0 b1 a2 = some true := by
  obtain ⟨hlo, hhi⟩ := i64_wf w0
  obtain ⟨K, hK⟩ : ∃ K, K = b1.length + 3518437209800 := ⟨_, rfl⟩
  refine ⟨K + 2, ?_⟩
  unfold sheetpilelaw20_ScanCut.f
  obtain ⟨b, hb, hf⟩ := few20_f b1 (by omega) 3518437208781 (fun c hc => by have := (w1.2 c hc).1; omega) (by omega) (K + 2) (by omega)
  have hj : sheetpilelaw20_ScanCut.j0 (K + 2) a0 b1 a2 true = some true := by rw [sheetpilelaw20_ScanCut.j0, if_pos rfl, live20]; rfl
  rw [hb, Option.bind_some]
  by_cases h : b = true
  · rw [if_pos h]
    by_cases h3 : a0 > 1152921504606846976
    · rw [decide_eq_true h3]; exact hj
    · have hf := hf h
      have hl := hf.1
      have hj1 : ∀ x, sheetpilelaw20_ScanCut.j1 (K + 1) a0 b1 a2 x true = some true := fun x => by rw [sheetpilelaw20_ScanCut.j1, if_pos rfl, live20]; rfl
      rw [decide_eq_false h3, sheetpilelaw20_ScanCut.j0, if_neg (by simp), scan_Write_f a0 b1 (small_few hf) hlo (by omega) (by omega), Option.bind_some]
      dsimp only
      by_cases e1 : (swL a0 b1 []).2 = 0
      · rw [if_pos e1]
        by_cases ha : a2 < 0
        · rw [if_pos ha]; exact hj1 _
        · rw [if_neg ha, bs_size]
          by_cases hb2 : a2 > ((swL a0 b1 []).1.length : Int)
          · rw [decide_eq_true hb2]; exact hj1 _
          · obtain ⟨x1, hok⟩ := swL_ok b1 a0 [] e1
            rw [List.nil_append] at x1
            rw [x1] at hb2 ⊢
            have hs1 : ∀ c ∈ b1, ∀ x ∈ c, x.f0.size ≤ 65535 := fun c hc x hx => ((small_few hf c hc).1 x hx).1
            have G1 := good_num hs1 hok
            have F1 := frames_few b1 a0 (few_body hf hok)
            have C1 := chain_num b1 a0 [] (fun g h => by simp at h) hok
            obtain ⟨n, rfl⟩ : ∃ n : Nat, a2 = n := ⟨a2.toNat, by omega⟩
            have hbl : ∀ g ∈ numL a0 b1, (bodyL g.f1).length < 4294967296 := fun g hg => by
              have := few_body hf hok g.f1 (by
                have := List.mem_map_of_mem (f := fun g : S30 => g.f1) hg
                rwa [numL_f1] at this)
              omega
            obtain ⟨i, rest, q1, q2, q3, q4, q5⟩ := split_take (numL a0 b1) n hbl
            rw [numL_length] at q1 q5
            have hA := all_run ((numL a0 b1).take i) rest (by rw [← q2, List.length_take]; omega) (fun g hg => G1 g (List.mem_of_mem_take hg)) (chain_take _ _ i C1) (q3 _)
            rw [decide_eq_false hb2, sheetpilelaw20_ScanCut.j1, if_neg (by simp), if_pos (by omega), bs_size, if_pos (by omega), Int.toNat_natCast, bs_extract_zero, q2, hA, Option.bind_some]
            exact cut_l0 a0 b1 hf hlo (by omega) hok n i q1 (by omega) q4 q5 i K 0 (by omega) (by omega)
      · rw [if_neg e1]; exact hj1 _
  · rw [if_neg h]; exact hj
end Go.Proofs.Ytcgbjkjacpeheaa.Pure
