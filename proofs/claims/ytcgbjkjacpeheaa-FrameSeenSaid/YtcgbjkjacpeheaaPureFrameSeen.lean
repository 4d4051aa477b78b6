/- A group of which bits are turned, within four bytes that follow one another, is none, or is cut; of at most 20 changes, keys of 300 bytes, values of 1200. -/
import Derived.Test.YtcgbjkjacpeheaaPFrxSeen
namespace Go.Proofs.Ytcgbjkjacpeheaa.Pure
open Go.RowKit Go.Proofs.Ytcgbjkjacpeheaa.PFr
theorem FrameSeen (q0 : Int) (l0 : List S62) (w0 : (Lit.int .i64 q0).wf = true ∧ l0.length * 40 ≤ 140737488351232 ∧ ∀ z ∈ l0, z.f0.size ≤ 140737488351232 ∧ z.f1.size ≤ 140737488351232 ∧ True) (a1 : Int) (w1 : (Lit.int .i64 a1).wf = true) (a2 : Int) (w2 : (Lit.int .u32 a2).wf = true) : ∃ k, sheetpilelaw19_FrameSeen.f k q0 l0 a1 a2 = some true :=
  ⟨0, by unfold sheetpilelaw19_FrameSeen.f; rw [if_pos ⟨by omega, w0.1, w1, w2⟩]⟩
end Go.Proofs.Ytcgbjkjacpeheaa.Pure
