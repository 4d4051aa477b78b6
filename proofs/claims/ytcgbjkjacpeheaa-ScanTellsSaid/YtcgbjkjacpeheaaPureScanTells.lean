/- The groups of any bytes, and where they end, are the reference's; of at most 5000 bytes. -/
import Derived.Test.YtcgbjkjacpeheaaPFrx19
import Derived.Test.YtcgbjkjacpeheaaPureSc20
namespace Go.Proofs.Ytcgbjkjacpeheaa.Pure
set_option linter.unusedVariables false
set_option linter.unusedSimpArgs false
open Go.RowKit Go.Proofs.Ytcgbjkjacpeheaa.PFr Go.Proofs.Ytcgbjkjacpeheaa.Given Go.Proofs.Ytcgbjkjacpeheaa.Bs Go.Proofs.Ytcgbjkjacpeheaa.WirePlain Go.Proofs.Ytcgbjkjacpeheaa.KeyPlain Go.Proofs.Ytcgbjkjacpeheaa.RunesPlain Go.Proofs.Ytcgbjkjacpeheaa.CrcPlain Go.Proofs.YtcgbjkjacpeheaaW.PrintWords Go.Proofs.YtcgbjkjacpeheaaW.PrintLast Go.Proofs.YtcgbjkjacpeheaaW.PrintMore
theorem ScanTells : sheetpilelaw20_ScanTells.Pure := by
  intro a0 ha
  obtain ⟨l, rfl⟩ := ex_bs a0
  obtain ⟨K, hK⟩ : ∃ K, K = 100000 := ⟨_, rfl⟩
  refine ⟨K, ?_⟩
  unfold sheetpilelaw20_ScanTells.f
  rw [live20, bs_size]
  by_cases h : (l.length : Int) > 5000
  · rw [if_pos h]; rfl
  · rw [if_neg h]
    obtain ⟨new, rest, h1, h2, h3, h4, h5, _⟩ := all_spec l (by omega)
    have hlen := congrArg List.length h3
    rw [List.length_append] at hlen
    have h13 := framesL_len new
    have hA : sheetpileref20_All.f K (bs l) = some (new.map tg, ((framesL new).length : Int)) := by
      have := ref_all_loop (bs l) (l.length + 2) l [] K (by omega) (by rw [List.length_nil]; omega) (by omega)
      rw [h2, bs_size] at this
      dsimp only at this
      rw [wrap_id (by omega) (by omega), show ((l.length : Int) - (rest.length : Int)) = ((framesL new).length : Int) by omega] at this
      exact this
    rw [h1, Option.bind_some, hA, Option.bind_some]
    dsimp only
    rw [told_f new (by omega) K (by omega), Option.bind_some, same_refl (new.map tg) (by rw [List.length_map]; omega) (fun g hg => by
      obtain ⟨x, hx, rfl⟩ := List.mem_map.1 hg
      exact checkL_len (h5 x hx).2.2.1) K (by rw [List.length_map]; omega), Option.bind_some, if_pos rfl, if_pos rfl]
    rfl
end Go.Proofs.Ytcgbjkjacpeheaa.Pure
