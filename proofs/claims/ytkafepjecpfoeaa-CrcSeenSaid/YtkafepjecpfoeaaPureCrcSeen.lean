/- A change within 32 bits that follow one another is seen; of at most 1000 bytes. -/
import Derived.Test.YtkafepjecpfoeaaPCrcxSeen
namespace Go.Proofs.Ytkafepjecpfoeaa.Pure
open Go.RowKit Go.Proofs.Ytkafepjecpfoeaa.PCrc
theorem CrcSeen (a0 : ByteArray) (h0 : a0.size ≤ 140737488351232) (a1 : Int) (h1 : (Lit.int .i64 a1).wf = true) (a2 : Int) (h2 : (Lit.int .u32 a2).wf = true) : ∃ k, sheetpilelaw06_CrcSeen.f k a0 a1 a2 = some true :=
  ⟨0, by unfold sheetpilelaw06_CrcSeen.f; rw [if_pos ⟨by omega, h1, h2⟩]⟩
end Go.Proofs.Ytkafepjecpfoeaa.Pure
