/- In however many parts a text is gone through, its sum is the same; of at most 30 parts of 300 bytes. -/
import Derived.Test.YtkafepjecpfoeaaPCrcx1
import Derived.Test.YtkafepjecpfoeaaPureCrcBase
namespace Go.Proofs.Ytkafepjecpfoeaa.Pure
set_option linter.unusedVariables false
set_option linter.unusedSimpArgs false
open Go.RowKit Go.Proofs.Ytkafepjecpfoeaa.PCrc Go.Proofs.Ytkafepjecpfoeaa.Given Go.Proofs.Ytkafepjecpfoeaa.CrcPlain Go.Proofs.YtkafepjecpfoeaaW.PrintWords Go.Proofs.YtkafepjecpfoeaaW.PrintLast
theorem parts_loop (l : List ByteArray) (hl : l.length ≤ 30) (d : Nat) : ∀ (k i : Nat) (acc : ByteArray), i + d = l.length → acc.size ≤ 300 * i →
    sheetpilelaw06_CrcParts.l0 (k + d + 1) l ((more 0 acc.data.toList : Nat) : Int) acc (i : Int) = some true := by
  induction d with
  | zero =>
    intro k i acc hi ha
    rw [sheetpilelaw06_CrcParts.l0, if_neg (by omega), crc_Sum_f acc (by omega)]
    simp only [Option.bind_some, if_true, live06]
  | succ d ih =>
    intro k i acc hi ha
    rw [show k + (d + 1) + 1 = (k + d + 1) + 1 by omega, sheetpilelaw06_CrcParts.l0, if_pos (by omega), if_pos (by omega)]
    by_cases hs : ((rdOf ByteArray.empty l (i : Int)).size : Int) > 300
    · rw [if_pos hs, live06]; rfl
    · rw [if_neg hs, crc_More_f _ _ (more_lt (by decide) _) (by omega), Option.bind_some, if_pos (by omega), wrap_succ i l.length (by omega) (by omega)]
      rw [← more_append]
      have e : acc.data.toList ++ (rdOf ByteArray.empty l (i : Int)).data.toList = (acc ++ rdOf ByteArray.empty l (i : Int)).data.toList := by simp
      rw [e]
      exact ih k (i + 1) _ (by omega) (by rw [ByteArray.size_append]; omega)
theorem CrcParts (b : List ByteArray) (h : b.length * 16 ≤ 140737488351232 ∧ ∀ z ∈ b, z.size ≤ 140737488351232) : ∃ k, sheetpilelaw06_CrcParts.f k b = some true := by
  refine ⟨b.length + 1, ?_⟩
  unfold sheetpilelaw06_CrcParts.f
  by_cases hs : (b.length : Int) > 30
  · rw [if_pos hs, live06]; rfl
  · rw [if_neg hs]
    have := parts_loop b (by omega) b.length 0 0 ⟨#[]⟩ (by omega) (by decide)
    rw [Nat.zero_add] at this
    have e : more 0 (⟨#[]⟩ : ByteArray).data.toList = 0 := by decide
    rw [e] at this
    exact this
end Go.Proofs.Ytkafepjecpfoeaa.Pure
