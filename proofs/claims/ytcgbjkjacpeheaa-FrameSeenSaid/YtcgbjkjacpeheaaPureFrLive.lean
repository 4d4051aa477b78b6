/- The answers of the document that the statements of frames hold beside them. -/
import Derived.Test.YtcgbjkjacpeheaaPFrx10
import Derived.Test.YtcgbjkjacpeheaaPureFrB
namespace Go.Proofs.Ytcgbjkjacpeheaa.Pure
set_option linter.unusedVariables false
set_option linter.unusedSimpArgs false
open Go.RowKit Go.Proofs.Ytcgbjkjacpeheaa.PFr Go.Proofs.Ytcgbjkjacpeheaa.Given Go.Proofs.Ytcgbjkjacpeheaa.Bs Go.Proofs.Ytcgbjkjacpeheaa.WirePlain Go.Proofs.Ytcgbjkjacpeheaa.KeyPlain Go.Proofs.Ytcgbjkjacpeheaa.RunesPlain Go.Proofs.Ytcgbjkjacpeheaa.CrcPlain Go.Proofs.YtcgbjkjacpeheaaW.PrintWords Go.Proofs.YtcgbjkjacpeheaaW.PrintLast Go.Proofs.YtcgbjkjacpeheaaW.PrintMore
def goneK : List S62 := [⟨⟨#[107]⟩, ⟨#[]⟩, true⟩]
theorem checkK : checkL goneK = 0 := by decide +kernel
theorem checkE : checkL [(⟨⟨#[]⟩, ⟨#[]⟩, false⟩ : S62)] = 7 := by decide +kernel
theorem normK : NormL goneK := by
  intro c hc
  simp only [goneK, List.mem_singleton] at hc
  subst hc
  exact ⟨by decide, by decide, fun _ => rfl⟩
theorem live19 (k : Nat) (hk : 200 ≤ k) : sheetpilelaw19_live.f k = some true := by
  unfold sheetpilelaw19_live.f
  rw [if_pos ?_]
  unfold sheetpilelaw19_live0.f
  rw [Option.bind_some]
  show (frame_Write.f 3 goneK).bind _ = _
  have hw : writeL 3 goneK = (frameL 3 goneK, 0) := by unfold writeL; rw [if_pos checkK, if_pos ⟨by decide, by decide⟩]; rfl
  have hbl : (bodyL goneK).length = 4 := by decide
  have hfl : (frameL 3 goneK).length = 17 := by rw [frameL_length, hbl]
  rw [frame_Write_f 3 goneK (by decide) (by decide) (normL_sizes normK), Option.bind_some, hw]
  simp only [bs_size, hfl]
  rw [if_pos (by decide), show (⟨#[120]⟩ : ByteArray) = bs [120] from rfl, bs_append, frame_Read_f k (by omega) _ (by rw [List.length_append, hfl]; decide), readF_frame 3 goneK [120] (by decide) checkK normK, Option.bind_some]
  have hw17 : wrap64 (((17 : Nat) : Int) - 1) = 16 := by rw [wrap_id (by omega) (by omega)]; rfl
  have hmx : mx (wrap64 (((17 : Nat) : Int) - 1)) 0 = 16 := by rw [hw17]; rfl
  rw [hmx, if_pos (by decide), if_pos (by decide), show (16 : Int).toNat = 16 from rfl, bs_extract_zero, frame_Read_f k (by omega) _ (by rw [List.length_take, hfl]; decide), readF_cut 3 goneK 16 (by rw [hbl]; decide) (by rw [hfl]; decide), Option.bind_some,
    frame_Read_f k (by omega) _ (by decide), show readF [120] = (0, [], [], 5) from rfl, Option.bind_some]
  have hw0 : writeL 0 [] = ([], 1) := by decide
  rw [frame_Write_f 0 [] (by decide) (by decide) (by simp), hw0, Option.bind_some]
  simp only [outR]
  rw [if_pos (by decide), if_pos (by decide), if_pos (by decide)]
  show (sheetpileref19_Changes.f k goneK goneK).bind _ = _
  rw [ref19_Changes_same goneK (by decide) k (by show 1 + 1 ≤ k; omega), Option.bind_some, if_pos rfl, bs_toList]
  simp only [if_true]
  rw [frame_Check_f k (by omega) _ (by intro c hc; simp only [List.mem_singleton] at hc; subst hc; decide), checkE]
  rfl
end Go.Proofs.Ytcgbjkjacpeheaa.Pure
