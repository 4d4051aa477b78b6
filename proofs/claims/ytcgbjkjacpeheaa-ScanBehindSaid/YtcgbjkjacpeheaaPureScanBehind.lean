/- What stands behind the groups of any bytes does not go on with them; of at most 5000 bytes. -/
import Derived.Test.YtcgbjkjacpeheaaPFrx24
import Derived.Test.YtcgbjkjacpeheaaPureSc20
namespace Go.Proofs.Ytcgbjkjacpeheaa.Pure
set_option linter.unusedVariables false
set_option linter.unusedSimpArgs false
open Go.RowKit Go.Proofs.Ytcgbjkjacpeheaa.PFr Go.Proofs.Ytcgbjkjacpeheaa.Given Go.Proofs.Ytcgbjkjacpeheaa.Bs Go.Proofs.Ytcgbjkjacpeheaa.WirePlain Go.Proofs.Ytcgbjkjacpeheaa.KeyPlain Go.Proofs.Ytcgbjkjacpeheaa.RunesPlain Go.Proofs.Ytcgbjkjacpeheaa.CrcPlain Go.Proofs.YtcgbjkjacpeheaaW.PrintWords Go.Proofs.YtcgbjkjacpeheaaW.PrintLast Go.Proofs.YtcgbjkjacpeheaaW.PrintMore
theorem ScanBehind : sheetpilelaw20_ScanBehind.Pure := by
  intro a0 ha
  obtain ⟨l, rfl⟩ := ex_bs a0
  obtain ⟨K, hK⟩ : ∃ K, K = 100000 := ⟨_, rfl⟩
  refine ⟨K + 1, ?_⟩
  unfold sheetpilelaw20_ScanBehind.f
  rw [live20, bs_size]
  by_cases h : (l.length : Int) > 5000
  · rw [if_pos h]; rfl
  · rw [if_neg h]
    obtain ⟨new, rest, h1, h2, h3, h4, h5, hst⟩ := all_spec l (by omega)
    have hlen := congrArg List.length h3
    rw [List.length_append] at hlen
    have h13 := framesL_len new
    rw [h1, Option.bind_some]
    dsimp only
    rw [if_neg (by omega), decide_eq_false (by omega), sheetpilelaw20_ScanBehind.j0, if_neg (by simp), if_pos (by omega), bs_size, if_pos (by omega), Int.toNat_natCast, bs_extract_end]
    have hdrop : l.drop (framesL new).length = rest := by
      conv => lhs; rw [h3]
      rw [List.drop_left' rfl]
    obtain ⟨new2, rest2, g1, g2, g3, g4, g5, _⟩ := all_spec rest (by omega)
    rw [hdrop, g1, Option.bind_some, live20]
    dsimp only
    cases new2 with
    | nil =>
      by_cases hn : ((new.length : Int) > 0)
      · rw [if_pos hn, if_neg (by simp)]; rfl
      · rw [if_neg hn, if_pos (by simp), if_pos (by simp [framesL])]; rfl
    | cons g new2 =>
      have hr : readF rest = (g.f0, g.f1, framesL new2 ++ rest2, 0) := by
        rw [g3]
        show readF ((frameL g.f0.toNat g.f1 ++ framesL new2) ++ rest2) = _
        rw [List.append_assoc, readF_good (g5 g List.mem_cons_self)]
      have hb := hst (by rw [hr])
      rw [hr] at hb
      dsimp only at hb
      have hpos : (((g :: new2).length : Int) > 0) := by rw [List.length_cons]; omega
      rcases List.eq_nil_or_concat new with rfl | ⟨la, z, rfl⟩
      · exact absurd hb (by simp [brk])
      · rw [List.concat_eq_append] at *
        have hbz : brk (la ++ [z]) g.f0 = (g.f0 != wrap64 (z.f0 + 1)) := by unfold brk; rw [List.getLast?_concat]
        rw [hbz] at hb
        have hl1 : (la ++ [z]).length = la.length + 1 := by simp
        have hw : wrap64 (((la ++ [z]).length : Int) - 1) = (la.length : Int) := by rw [hl1, wrap_id (by omega) (by omega)]; omega
        have hrd : rd_T30 (la ++ [z]) (la.length : Int) = z := by rw [rd_get3 _ _ (by rw [hl1]; omega)]; simp
        rw [if_pos (by rw [hl1]; omega), if_pos hpos, if_pos (by omega), hw, if_pos (by omega), if_pos (by rw [hl1]; omega), hrd, show rd_T30 (g :: new2) 0 = g from rfl, if_neg (by simpa using hb)]
        rfl
end Go.Proofs.Ytcgbjkjacpeheaa.Pure
