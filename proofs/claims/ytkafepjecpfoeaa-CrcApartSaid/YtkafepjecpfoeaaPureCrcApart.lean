/- Behind one text two numbers' sums are the same just where the numbers are, at texts of at most 1000 bytes. -/
import Derived.Test.YtkafepjecpfoeaaPCrcx1
import Derived.Test.YtkafepjecpfoeaaPureCrcBase
namespace Go.Proofs.Ytkafepjecpfoeaa.Pure
set_option linter.unusedVariables false
set_option linter.unusedSimpArgs false
open Go.RowKit Go.Proofs.Ytkafepjecpfoeaa.PCrc Go.Proofs.Ytkafepjecpfoeaa.Given Go.Proofs.Ytkafepjecpfoeaa.CrcPlain Go.Proofs.YtkafepjecpfoeaaW.PrintWords Go.Proofs.YtkafepjecpfoeaaW.PrintLast
theorem more_inj {a b : Nat} (ha : a < 4294967296) (hb : b < 4294967296) (l : List UInt8) (h : more a l = more b l) : a = b := by
  have hrun : ∀ (l : List UInt8) (x y : Nat), x < 4294967296 → y < 4294967296 → run x l = run y l → x = y := by
    intro l
    induction l with
    | nil => intro x y _ _ h; exact h
    | cons c l ih =>
      intro x y hx hy h
      have h1 := ih _ _ (step_lt hx c) (step_lt hy c) h
      have h2 := bitN_inj 8 (xor_lt32 hx (byte_lt c)) (xor_lt32 hy (byte_lt c)) h1
      have h3 := congrArg (· ^^^ c.toNat) h2
      simpa [Nat.xor_assoc] using h3
  unfold more at h
  have h1 := congrArg neg h
  rw [neg_neg, neg_neg] at h1
  have h2 := congrArg neg (hrun l _ _ (neg_lt ha) (neg_lt hb) h1)
  rwa [neg_neg, neg_neg] at h2
theorem CrcApart : sheetpilelaw06_CrcApart.Pure := by
  intro a0 a1 a2 h0 h1 h2
  obtain ⟨n, rfl, hn⟩ := u32_nat h0
  obtain ⟨m, rfl, hm⟩ := u32_nat h1
  unfold sheetpilelaw06_CrcApart.f
  by_cases hs : (a2.size : Int) > 1000
  · rw [if_pos hs, live06]; rfl
  · rw [if_neg hs, crc_More_f n a2 hn (by omega), crc_More_f m a2 hm (by omega), live06]
    simp only [Option.bind_some]
    rw [if_pos ?_]
    by_cases e : n = m
    · subst e; simp
    · have : more n a2.data.toList ≠ more m a2.data.toList := fun h => e (more_inj hn hm _ h)
      have h3 : ((n : Int) == (m : Int)) = false := by simp; omega
      have h4 : (((more n a2.data.toList : Nat) : Int) == ((more m a2.data.toList : Nat) : Int)) = false := by simp; omega
      rw [h3, h4]; rfl
end Go.Proofs.Ytkafepjecpfoeaa.Pure
