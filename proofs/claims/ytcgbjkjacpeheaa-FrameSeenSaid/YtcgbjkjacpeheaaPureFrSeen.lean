/- A group of which bits are turned, within four bytes that follow one another, is none, or is cut: plainly. -/
import Derived.Test.YtcgbjkjacpeheaaPFrx0
import Derived.Test.YtcgbjkjacpeheaaPureFrB
import Derived.Test.YtcgbjkjacpeheaaSeenPlain
namespace Go.Proofs.Ytcgbjkjacpeheaa.Pure
set_option linter.unusedVariables false
set_option linter.unusedSimpArgs false
open Go.RowKit Go.Proofs.Ytcgbjkjacpeheaa.PFr Go.Proofs.Ytcgbjkjacpeheaa.Given Go.Proofs.Ytcgbjkjacpeheaa.Bs Go.Proofs.Ytcgbjkjacpeheaa.WirePlain Go.Proofs.Ytcgbjkjacpeheaa.CrcPlain Go.Proofs.YtcgbjkjacpeheaaW.PrintWords Go.Proofs.YtcgbjkjacpeheaaW.PrintLast Go.Proofs.YtcgbjkjacpeheaaW.PrintMore
theorem low4_list (c : Nat) : lowB 4 c = [UInt8.ofNat (c % 256), UInt8.ofNat (c / 256 % 256), UInt8.ofNat (c / 65536 % 256), UInt8.ofNat (c / 16777216 % 256)] := by
  simp only [lowB, Nat.div_div_eq_div_mul]
theorem run_zeros4 (x : Nat) : run x (List.replicate 4 0) = bitN 32 x := by
  show CrcPlain.step (CrcPlain.step (CrcPlain.step (CrcPlain.step x 0) 0) 0) 0 = _
  unfold CrcPlain.step
  have h0 : (0 : UInt8).toNat = 0 := rfl
  simp only [h0, Nat.xor_zero]
  rw [← bitN_add, ← bitN_add, ← bitN_add]
theorem run_four (x c : Nat) (hc : c < 4294967296) : run x (lowB 4 c) = bitN 32 (x ^^^ c) := by
  have h := run_xor_zero 0 x (lowB 4 c)
  rw [Nat.zero_xor, lowB_length, run_zeros4] at h
  rw [h, low4_list, split4 c hc, bitN_xor, Nat.xor_comm]
theorem residue (m : List UInt8) (c : Nat) (hc : c < 4294967296) : more 0 (m ++ lowB 4 c) = neg (bitN 32 4294967295) ↔ c = more 0 m := by
  have hX : run (neg 0) m < 4294967296 := run_lt (neg_lt (by decide)) m
  have e : more 0 (m ++ lowB 4 c) = neg (bitN 32 (run (neg 0) m ^^^ c)) := by
    unfold more; rw [run_append, run_four _ c hc]
  rw [e]
  constructor
  · intro h
    have h1 : bitN 32 (run (neg 0) m ^^^ c) = bitN 32 4294967295 := by
      have := congrArg neg h
      rwa [neg_neg, neg_neg] at this
    have h2 := bitN_inj 32 (xor_lt32 hX hc) (by decide) h1
    have h3 : c = run (neg 0) m ^^^ 4294967295 := by
      rw [← h2, ← Nat.xor_assoc, Nat.xor_self, Nat.zero_xor]
    rw [h3]; rfl
  · intro h
    rw [h]
    unfold more neg
    rw [← Nat.xor_assoc, Nat.xor_self, Nat.zero_xor]
theorem frame_residue (seq : Nat) (l : List S62) : more 0 (frameL seq l) = neg (bitN 32 4294967295) := by
  unfold frameL
  exact (residue _ _ (more_lt (by decide) _)).2 rfl
theorem len_field (seq : Nat) (l : List S62) (rest : List UInt8) : ((frameL seq l ++ rest).drop 5).take 4 = lowB 4 (bodyL l).length := by
  rw [frame_app, show 5 = 4 + 1 from rfl, List.drop_succ_cons, List.drop_left' (lowB_length 4 seq), List.take_left' (lowB_length 4 _)]
theorem frame_seen (seq : Nat) (l : List S62) (hb4 : (bodyL l).length < 4294967296) (a b : Nat) (ha : a + 4 ≤ (frameL seq l).length) (ha2 : a = 1 ∨ 9 ≤ a) (hb : b < 4294967296) (h0 : b ≠ 0) : (readF (turnB a b 4 (frameL seq l))).2.2.2 ≠ 0 := by
  intro h
  have hlen := turnB_length a b 4 (frameL seq l)
  have hne := more_turned (frameL seq l) a b ha hb h0
  obtain ⟨q, _, hq, hc, hn, hl⟩ := readF_back (l := turnB a b 4 (frameL seq l)) (q := (readF (turnB a b 4 (frameL seq l))).1) (cs := (readF (turnB a b 4 (frameL seq l))).2.1) (left := (readF (turnB a b 4 (frameL seq l))).2.2.1) (by rw [← h])
  generalize (readF (turnB a b 4 (frameL seq l))).2.1 = cs at *
  generalize (readF (turnB a b 4 (frameL seq l))).2.2.1 = left at *
  have hbc := bodyL_len cs (normL_sizes hn)
  have hcl := checkL_len hc
  have hfield : ((turnB a b 4 (frameL seq l)).drop 5).take 4 = ((frameL seq l).drop 5).take 4 := by
    obtain ⟨p, c0, c1, c2, c3, q', he, hp⟩ := split_four (frameL seq l) a ha
    rw [he, turnB_four a b p q' c0 c1 c2 c3 hp]
    rcases ha2 with rfl | h9
    · match p, hp with
      | [x], _ => rfl
    · have e : ∀ r : List UInt8, ((p ++ r).drop 5).take 4 = (p.drop 5).take 4 := fun r => by
        rw [List.drop_append_of_le_length (by omega), List.take_append_of_le_length (by rw [List.length_drop]; omega)]
      rw [e, e]
  have f1 := len_field q cs left
  have f2 := len_field seq l []
  rw [List.append_nil] at f2
  rw [← hl, hfield, f2] at f1
  have hbl := lowB_inj (by rw [pow4]; omega) (by rw [pow4]; omega) f1
  have hll : left = [] := by
    have := congrArg List.length hl
    rw [hlen, List.length_append, frameL_length, frameL_length] at this
    exact List.eq_nil_of_length_eq_zero (by omega)
  rw [hll, List.append_nil] at hl
  rw [hl, frame_residue, frame_residue] at hne
  exact hne rfl
end Go.Proofs.Ytcgbjkjacpeheaa.Pure
