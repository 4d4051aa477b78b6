/- Any groups' bytes, or why there are none, are the reference's; of at most 20 groups. -/
import Derived.Test.YtcgbjkjacpeheaaPFrx20
import Derived.Test.YtcgbjkjacpeheaaPureSc20
namespace Go.Proofs.Ytcgbjkjacpeheaa.Pure
set_option linter.unusedVariables false
set_option linter.unusedSimpArgs false
open Go.RowKit Go.Proofs.Ytcgbjkjacpeheaa.PFr Go.Proofs.Ytcgbjkjacpeheaa.Given Go.Proofs.Ytcgbjkjacpeheaa.Bs Go.Proofs.Ytcgbjkjacpeheaa.WirePlain Go.Proofs.Ytcgbjkjacpeheaa.KeyPlain Go.Proofs.Ytcgbjkjacpeheaa.RunesPlain Go.Proofs.Ytcgbjkjacpeheaa.CrcPlain Go.Proofs.YtcgbjkjacpeheaaW.PrintWords Go.Proofs.YtcgbjkjacpeheaaW.PrintLast Go.Proofs.YtcgbjkjacpeheaaW.PrintMore
theorem ScanWrites (a0 : Int) (w0 : (Lit.int .i64 a0).wf = true) (b1 : List (List S62)) (w1 : b1.length * 24 ≤ 140737488351232 ∧ ∀ z ∈ b1, z.length * 40 ≤ 140737488351232 ∧ ∀ x ∈ z, (x.f0.size ≤ 140737488351232) ∧ (x.f1.size ≤ 140737488351232) ∧ (True)) : ∃ k, sheetpilelaw20_ScanWrites.f k a0 b1 = some true := by
  obtain ⟨hlo, hhi⟩ := i64_wf w0
  obtain ⟨B, hB⟩ : ∃ B, B = 90000401 := ⟨_, rfl⟩
  obtain ⟨K, hK⟩ : ∃ K, K = B + b1.length + 3518437208800 := ⟨_, rfl⟩
  have hBK : 90000401 ≤ K := by rw [← hB]; omega
  refine ⟨K + 1, ?_⟩
  unfold sheetpilelaw20_ScanWrites.f
  obtain ⟨b, hb, hf⟩ := few20_f b1 (by omega) 3518437208781 (fun c hc => by have := (w1.2 c hc).1; omega) (by omega) (K + 1) (by omega)
  have hj : sheetpilelaw20_ScanWrites.j0 (K + 1) a0 b1 true = some true := by rw [sheetpilelaw20_ScanWrites.j0, if_pos rfl, live20]; rfl
  rw [hb, Option.bind_some]
  by_cases h : b = true
  · rw [if_pos h]
    by_cases h2 : a0 > 1152921504606846976
    · rw [decide_eq_true h2]; exact hj
    · have hs := small_few (hf h)
      have hl := (hf h).1
      rw [decide_eq_false h2, sheetpilelaw20_ScanWrites.j0, if_neg (by simp), scan_Write_f a0 b1 hs hlo (by omega) (by omega), Option.bind_some, ref_Write_f b1 hs a0 hlo (by omega) (by omega) K hBK, Option.bind_some, if_pos rfl, if_pos rfl, live20]
      rfl
  · rw [if_neg h]; exact hj
end Go.Proofs.Ytcgbjkjacpeheaa.Pure
