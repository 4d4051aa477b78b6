/- A hint of which bits are turned, within four bytes that follow one another, is read with a fault; of at most 60 pairs, keys of 300 bytes, values of 1200. -/
import Derived.Test.YtggngbbkachpaaaPDixSeen
namespace Go.Proofs.Ytggngbbkachpaaa.Pure
open Go.RowKit Go.Proofs.Ytggngbbkachpaaa.PDi
theorem DirSeen (b0 : List S75) (h0 : b0.length * 32 ≤ 140737488351232 ∧ ∀ z_b0 ∈ b0, (z_b0.f0.size ≤ 140737488351232) ∧ (z_b0.f1.size ≤ 140737488351232)) (b1 : Int) (h1 : (Lit.int .i64 b1).wf = true) (b2 : Int) (h2 : (Lit.int .u32 b2).wf = true) : ∃ k, sheetpilelaw21_DirSeen.f k b0 b1 b2 = some true :=
  ⟨0, by unfold sheetpilelaw21_DirSeen.f; rw [if_pos ⟨by omega, h1, h2⟩]⟩
end Go.Proofs.Ytggngbbkachpaaa.Pure
