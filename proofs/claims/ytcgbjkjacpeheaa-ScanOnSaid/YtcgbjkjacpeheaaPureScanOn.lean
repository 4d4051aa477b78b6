/- Groups written in two parts are read one behind the other as each is alone; of at most 20 groups each. -/
import Derived.Test.YtcgbjkjacpeheaaPFrx23
import Derived.Test.YtcgbjkjacpeheaaPureSc20
namespace Go.Proofs.Ytcgbjkjacpeheaa.Pure
set_option linter.unusedVariables false
set_option linter.unusedSimpArgs false
open Go.RowKit Go.Proofs.Ytcgbjkjacpeheaa.PFr Go.Proofs.Ytcgbjkjacpeheaa.Given Go.Proofs.Ytcgbjkjacpeheaa.Bs Go.Proofs.Ytcgbjkjacpeheaa.WirePlain Go.Proofs.Ytcgbjkjacpeheaa.KeyPlain Go.Proofs.Ytcgbjkjacpeheaa.RunesPlain Go.Proofs.Ytcgbjkjacpeheaa.CrcPlain Go.Proofs.YtcgbjkjacpeheaaW.PrintWords Go.Proofs.YtcgbjkjacpeheaaW.PrintLast Go.Proofs.YtcgbjkjacpeheaaW.PrintMore
theorem ScanOn (a0 : Int) (w0 : (Lit.int .i64 a0).wf = true) (b1 : List (List S62)) (w1 : b1.length * 24 ≤ 140737488351232 ∧ ∀ z ∈ b1, z.length * 40 ≤ 140737488351232 ∧ ∀ x ∈ z, (x.f0.size ≤ 140737488351232) ∧ (x.f1.size ≤ 140737488351232) ∧ (True)) (b2 : List (List S62)) (w2 : b2.length * 24 ≤ 140737488351232 ∧ ∀ z ∈ b2, z.length * 40 ≤ 140737488351232 ∧ ∀ x ∈ z, (x.f0.size ≤ 140737488351232) ∧ (x.f1.size ≤ 140737488351232) ∧ (True)) : ∃ k, sheetpilelaw20_ScanOn.f k a0 b1 b2 = some true := by
  obtain ⟨hlo, hhi⟩ := i64_wf w0
  obtain ⟨K, hK⟩ : ∃ K, K = b1.length + b2.length + 3518437209800 := ⟨_, rfl⟩
  refine ⟨K + 3, ?_⟩
  unfold sheetpilelaw20_ScanOn.f
  obtain ⟨b, hb, hf⟩ := few20_f b1 (by omega) 3518437208781 (fun c hc => by have := (w1.2 c hc).1; omega) (by omega) (K + 3) (by omega)
  obtain ⟨c, hc, hf2⟩ := few20_f b2 (by omega) 3518437208781 (fun c hc => by have := (w2.2 c hc).1; omega) (by omega) (K + 3) (by omega)
  have hj : sheetpilelaw20_ScanOn.j0 (K + 3) a0 b1 b2 true = some true := by rw [sheetpilelaw20_ScanOn.j0, if_pos rfl, live20]; rfl
  rw [hb, Option.bind_some, hc, Option.bind_some]
  by_cases h : b = true
  · rw [if_pos h]
    by_cases h2 : c = true
    · rw [if_pos h2]
      by_cases h3 : a0 > 1152921504606846976
      · rw [decide_eq_true h3]; exact hj
      · have hl1 := (hf h).1
        have hl2 := (hf2 h2).1
        have hs1 : ∀ c ∈ b1, ∀ x ∈ c, x.f0.size ≤ 65535 := fun c hc x hx => ((small_few (hf h) c hc).1 x hx).1
        have hs2 : ∀ c ∈ b2, ∀ x ∈ c, x.f0.size ≤ 65535 := fun c hc x hx => ((small_few (hf2 h2) c hc).1 x hx).1
        rw [decide_eq_false h3, sheetpilelaw20_ScanOn.j0, if_neg (by simp), scan_Write_f a0 b1 (small_few (hf h)) hlo (by omega) (by omega), Option.bind_some, wrap_id (by omega) (by omega),
          scan_Write_f (a0 + b1.length) b2 (small_few (hf2 h2)) (by omega) (by omega) (by omega), Option.bind_some]
        dsimp only
        have hj1 : ∀ x y, sheetpilelaw20_ScanOn.j1 (K + 2) x y true = some true := fun x y => by rw [sheetpilelaw20_ScanOn.j1, if_pos rfl, live20]; rfl
        by_cases e1 : (swL a0 b1 []).2 = 0
        · rw [if_pos e1]
          by_cases e2 : (swL (a0 + b1.length) b2 []).2 = 0
          · obtain ⟨x1, k1⟩ := swL_ok b1 a0 [] e1
            obtain ⟨x2, k2⟩ := swL_ok b2 (a0 + b1.length) [] e2
            rw [x1, x2, e2, List.nil_append, List.nil_append]
            have G1 := good_num hs1 k1
            have G2 := good_num hs2 k2
            have F1 := frames_few b1 a0 (few_body (hf h) k1)
            have F2 := frames_few b2 (a0 + b1.length) (few_body (hf2 h2) k2)
            have hap := numL_append b1 b2 a0
            have k3 : ∀ g ∈ numL a0 (b1 ++ b2), OkG g := fun g hg => by
              rw [hap] at hg
              rcases List.mem_append.1 hg with hg | hg
              · exact k1 g hg
              · exact k2 g hg
            have C1 := chain_num b1 a0 [] (fun g h => by simp at h) k1
            have C2 := chain_num b2 (a0 + b1.length) [] (fun g h => by simp at h) k2
            have C3 := chain_num (b1 ++ b2) a0 [] (fun g h => by simp at h) k3
            rw [hap] at C3
            have L1 := numL_length b1 a0
            have L2 := numL_length b2 (a0 + b1.length)
            generalize numL a0 b1 = N1 at *
            generalize numL (a0 + b1.length) b2 = N2 at *
            have A1 := all_run N1 [] (by rw [List.append_nil]; omega) G1 C1 (stop_nil _)
            have A2 := all_run N2 [] (by rw [List.append_nil]; omega) G2 C2 (stop_nil _)
            have A3 := all_run (N1 ++ N2) [] (by rw [List.append_nil, framesL_append, List.length_append]; omega) (fun g hg => by
              rcases List.mem_append.1 hg with hg | hg
              · exact G1 g hg
              · exact G2 g hg) C3 (stop_nil _)
            rw [List.append_nil] at A1 A2 A3
            rw [framesL_append, List.length_append] at A3
            show sheetpilelaw20_ScanOn.j1 (K + 2) _ _ false = _
            rw [sheetpilelaw20_ScanOn.j1, if_neg (by simp), A1, Option.bind_some, A2, Option.bind_some, bs_size, bs_size, if_pos (by omega), bs_append, A3, Option.bind_some]
            dsimp only
            rw [List.length_append, wrap_id (by omega) (by omega), if_pos (by omega), wrap_id (by omega) (by omega)]
            have hff : (((((framesL N1).length + (framesL N2).length : Nat) : Int)) != ((framesL N1).length : Int) + ((framesL N2).length : Int)) = false := bne_eq_false_iff_eq.mpr (by omega)
            rw [hff, sheetpilelaw20_ScanOn.j2, if_neg (by simp), if_pos (by omega), if_pos (by rw [List.length_append]; omega), Int.toNat_natCast, List.take_left' rfl, List.drop_left' rfl, told_f N1 (by omega) K (by omega), Option.bind_some, Option.bind_some,
              same_refl (N1.map tg) (by rw [List.length_map]; omega) (fun g hg => by
                obtain ⟨x, hx, rfl⟩ := List.mem_map.1 hg
                exact checkL_len (k1 x hx).2.2) K (by rw [List.length_map]; omega), Option.bind_some, if_pos rfl, told_f N2 (by omega) K (by omega), Option.bind_some, Option.bind_some,
              same_refl (N2.map tg) (by rw [List.length_map]; omega) (fun g hg => by
                obtain ⟨x, hx, rfl⟩ := List.mem_map.1 hg
                exact checkL_len (k2 x hx).2.2) K (by rw [List.length_map]; omega), Option.bind_some, if_pos rfl, live20]
            rfl
          · have : ((swL (a0 + b1.length) b2 []).2 != 0) = true := bne_iff_ne.mpr e2
            rw [this]; exact hj1 _ _
        · rw [if_neg e1]; exact hj1 _ _
    · rw [if_neg h2]; exact hj
  · rw [if_neg h]; exact hj
end Go.Proofs.Ytcgbjkjacpeheaa.Pure
