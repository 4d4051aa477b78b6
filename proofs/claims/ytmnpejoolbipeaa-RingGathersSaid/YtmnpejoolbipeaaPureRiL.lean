/- The laws' live answers. -/
import Derived.Test.YtmnpejoolbipeaaPureRiB
import Derived.Test.YtmnpejoolbipeaaPRix10
namespace Go.Proofs.Ytmnpejoolbipeaa.Pure
set_option linter.unusedVariables false
set_option linter.unusedSimpArgs false
open Go.RowKit Go.Proofs.Ytmnpejoolbipeaa.PRi Go.Proofs.Ytmnpejoolbipeaa.Given Go.Proofs.Ytmnpejoolbipeaa.Bs Go.Proofs.Ytmnpejoolbipeaa.WirePlain Go.Proofs.Ytmnpejoolbipeaa.KeyPlain Go.Proofs.Ytmnpejoolbipeaa.CrcPlain Go.Proofs.YtmnpejoolbipeaaW.PrintWords Go.Proofs.YtmnpejoolbipeaaW.PrintLast Go.Proofs.YtmnpejoolbipeaaW.PrintMore
theorem check0 : conf_Check.f 0 0 0 0 0 = some 1 := rfl
theorem gather0 (k : Nat) : ring_Gather.f k 0 0 0 0 0 0 0 ([] : List ByteArray) = some [] := by
  unfold ring_Gather.f
  rw [check0, Option.bind_some, if_neg (by decide)]
theorem live_f (k : Nat) : sheetpilelaw15_live.f k = some true := by
  have hn : newestL [(⟨5, 1, (⟨#[97]⟩ : ByteArray)⟩ : S44), (⟨2, 0, (⟨#[]⟩ : ByteArray)⟩ : S44), (⟨7, 1, (⟨#[98]⟩ : ByteArray)⟩ : S44), (⟨7, 1, (⟨#[99]⟩ : ByteArray)⟩ : S44)] = [(⟨2, 0, (⟨#[]⟩ : ByteArray)⟩ : S44), (⟨7, 1, (⟨#[98]⟩ : ByteArray)⟩ : S44)] := by
    simp [newestL, insI]
  have hx : ring_Next.f [(⟨5, 1, (⟨#[97]⟩ : ByteArray)⟩ : S44), (⟨2, 0, (⟨#[]⟩ : ByteArray)⟩ : S44), (⟨7, 1, (⟨#[98]⟩ : ByteArray)⟩ : S44), (⟨7, 1, (⟨#[99]⟩ : ByteArray)⟩ : S44)] = some 8 := by
    simp [ring_Next.f, maxF, cmpI, wrap64]
  have hx0 : ring_Next.f ([] : List S44) = some 0 := rfl
  have h0 : sheetpilelaw15_live0.f k = some true := by
    unfold sheetpilelaw15_live0.f
    rw [Option.bind_some, ring_Newest_f _ (by decide) (by simp; decide), hn, Option.bind_some, hx, hx0, gather0]
    simp [rd_T44]
  unfold sheetpilelaw15_live.f
  rw [if_pos h0]
end Go.Proofs.Ytmnpejoolbipeaa.Pure
