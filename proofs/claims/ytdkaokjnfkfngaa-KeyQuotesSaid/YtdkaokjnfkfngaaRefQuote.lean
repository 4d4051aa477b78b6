/- The document's Quote walked: at every text of at most 10000000 bytes it returns KeyPlain's text. -/
import Derived.Test.YtdkaokjnfkfngaaProg
import Derived.Below
import Derived.Deep.Draws
import Derived.Deep.AppendLies
import Derived.Maps.AppendAt
import Derived.OwnWalk
import Derived.Laws.BytesArg
import Derived.Laws.MakeOwn
import Derived.Laws.OwnMore
import Derived.Deep.OwnRows
import Derived.Tactics
import Derived.Lib.ConvBytes
import Derived.Laws.Slices
import Derived.WalkKit
import Derived.KernelRfl
import Derived.RowKit3
import Derived.Deep.LoopGhost
import Derived.Deep.QuietTactic
import Derived.BigQuiet
import Derived.WideLaws
import Derived.Deep.DeepCutAuto
import Derived.Deep.CutBlock
import Derived.Deep.RegionHeld3
import Derived.Laws.Rows
import Derived.Lib.AppendStr
import Derived.ArgAppend
import Derived.Laws.IdiomCopy
import Derived.OrdersHeld
import Derived.Laws.BitsLemmas
import Derived.RowKit
import Derived.Test.YtdkaokjnfkfngaaWWords
import Derived.Test.YtdkaokjnfkfngaaWLast
import Derived.Test.YtdkaokjnfkfngaaWTab
import Derived.Test.YtdkaokjnfkfngaaWFour
import Derived.Test.YtdkaokjnfkfngaaWQPut
import Derived.Test.YtdkaokjnfkfngaaWApart
import Derived.Test.YtdkaokjnfkfngaaWArr
import Derived.Test.YtdkaokjnfkfngaaWZeros
import Derived.Test.YtdkaokjnfkfngaaWFoot
import Derived.Test.YtdkaokjnfkfngaaWKept
import Derived.Test.YtdkaokjnfkfngaaWShare
import Derived.Test.YtdkaokjnfkfngaaWN
import Derived.Test.YtdkaokjnfkfngaaWFootNe
import Derived.Test.YtdkaokjnfkfngaaWAt
import Derived.Test.YtdkaokjnfkfngaaWEqStruct
import Derived.Test.YtdkaokjnfkfngaaWRepsOne
import Derived.Test.YtdkaokjnfkfngaaWInv
import Derived.Test.YtdkaokjnfkfngaaWInvWords
import Derived.Test.YtdkaokjnfkfngaaWGuard
import Derived.Test.YtdkaokjnfkfngaaWNEv
import Derived.Test.YtdkaokjnfkfngaaWMore
import Derived.Test.YtdkaokjnfkfngaaShelfW
import Derived.StillTailTactics
import Derived.Laws.BitsAllLaws
import Derived.Outline
import Derived.Test.YtdkaokjnfkfngaaBs
import Derived.Test.YtdkaokjnfkfngaaKeyUnq
import Derived.Shelf.Strings.MapGrows
namespace Go.Proofs.Ytdkaokjnfkfngaa.Given
open Go.RowKit Go.Proofs Go.Proofs.Ytdkaokjnfkfngaa.Bs Go.Proofs.Ytdkaokjnfkfngaa.KeyPlain Go.Proofs.YtdkaokjnfkfngaaW.PrintWords Go.Proofs.YtdkaokjnfkfngaaW.PrintLast Go.Proofs.YtdkaokjnfkfngaaW.PrintMore
set_option linter.unusedVariables false
set_option linter.unusedSimpArgs false
theorem one_string (wr : World) (c : UInt8) : (convert 63 9 (.slice (some ⟨wr.heap.size, 0, none⟩) 1 1)).run Try.prog (wr.alloc (.cells #[.int .u8 (c.toNat : Int)] 5)) = .ok (.string (bs [c])) (wr.alloc (.cells #[.int .u8 (c.toNat : Int)] 5)) := by
  have h := run_convert_bytes_arg (P := Try.prog) (wr.alloc (.cells #[.int .u8 (c.toNat : Int)] 5)) 63 5 Try.underlying63 Try.underlying5 wr.heap.size 0 1 1 [(c.toNat : Int)] rfl (fun i hi => by
    obtain rfl : i = 0 := by omega
    rw [World.cell?_alloc_at _ _ _ _ rfl]; rfl) 9 Try.underlying9
  rw [h]
  have e : strOfNums [(c.toNat : Int)] = bs [c] := strOfNums_numsOf [c]
  rw [e]
theorem hex_cut (n : Nat) (h : n < 16) : (bs digitsL).extract n (n + 1) = bs [hexB n] := by
  rw [bs_extract]
  have hc : ∀ m : Fin 16, (digitsL.drop m.val).take (m.val + 1 - m.val) = [hexB m.val] := by decide +kernel
  rw [hc ⟨n, h⟩]
theorem hex_join (S : ByteArray) (l : List UInt8) (n1 n2 : Nat) (hS : S = bs l) (i1 : (bs digitsL).extract n1 (n1 + 1) = bs [hexB n1]) (i2 : (bs digitsL).extract n2 (n2 + 1) = bs [hexB n2]) :
    S ++ bs [37] ++ (bs digitsL).extract n1 (n1 + 1) ++ (bs digitsL).extract n2 (n2 + 1) = bs (l ++ [37, hexB n1, hexB n2]) := by
  rw [i1, i2, hS]; simp [bs_append]
set_option maxHeartbeats 1000000 in
set_option maxRecDepth 100000 in
theorem refQuote_walk (a : List UInt8) (ha : a.length ≤ 10000000) (h0 : a ≠ []) (w : World) :
    Calls Try.prog 23 #[.string (bs a)] w fun e w' => e = .returned (.string (bs (a.flatMap quoteB))) ∧ Below w.heap.size w w' := by
  have hne : ((bs a).toList == []) = false := by rw [bs_toList]; simpa using h0
  have hne2 : (bs a).toList.isEmpty = false := by rw [bs_toList]; simpa using h0
  go_enter Try.func23, Try.ntmps23
  go_wp2_with fail
  clear hne hne2
  go_loopw [4, 5] (fun v4 v5 wr => ∃ k : Nat, k ≤ a.length ∧ v4 = .string (bs ((a.take k).flatMap quoteB)) ∧ v5 = .int .i64 k ∧ Below w.heap.size w wr) (fun _ v5 _ => a.length - (intOf v5).toNat)
  case atStart => exact ⟨0, by omega, rfl, rfl, Below.refl _ _⟩
  case round =>
    obtain ⟨k, hk, rfl, rfl, hB⟩ := hrel
    have HB := Aside0.mk hB
    clear hB
    by_cases hlt : k < a.length
    · obtain ⟨c, hcd⟩ : ∃ c, c = a[k] := ⟨_, rfl⟩
      have hc1 : c.toNat < 256 := c.toNat_lt
      have hi := fun W => str_index a k hlt W
      rw [← hcd] at hi
      have hlen := flat_len (a.take k)
      rw [List.length_take] at hlen
      have hsz : (bs ((a.take k).flatMap quoteB)).size ≤ 30000000 := by rw [bs_size]; omega
      have hnext : (a.take (k + 1)).flatMap quoteB = (a.take k).flatMap quoteB ++ quoteB c := by
        rw [List.take_succ_eq_append_getElem hlt, List.flatMap_append, hcd]; simp
      have HN := Aside0.mk hnext
      have HL := Aside0.mk hlen
      have hlt2 : decide ((k : Int) < ((bs a).size : Int)) = true := by rw [bs_size]; simpa using hlt
      clear hnext hcd hlen
      obtain ⟨S, hS⟩ : ∃ S, S = bs ((a.take k).flatMap quoteB) := ⟨_, rfl⟩
      rw [← hS] at hsz ⊢
      have HS := Aside0.mk hS
      clear hS
      by_cases hq : 32 < c.toNat ∧ c.toNat < 127 ∧ c.toNat ≠ 37
      · have hqq : quoteB c = [c] := if_pos hq
        have HQ := Aside0.mk hqq
        obtain ⟨q1, q2, q3⟩ := hq
        have d1 : decide ((33 : Int) ≤ (c.toNat : Int)) = true := by simp; omega
        have d2 : decide ((c.toNat : Int) ≤ 126) = true := by simp; omega
        have d3 : ((c.toNat : Int) != 37) = true := by simp; omega
        clear hqq q1 q2 q3
        have hcv := one_string wr c
        have hs1 : (bs [c]).size = 1 := bs_size [c]
        go_wp2_with fail
        go_roundw
        case rel => exact ⟨k + 1, by omega, by rw [HN.out, HQ.out, HS.out, bs_append], by go_num, HB.out.alloc HB.out.size _⟩
        case measure => simp [intOf]; omega
      · have hqq : quoteB c = [37, hexB (c.toNat / 16), hexB (c.toNat % 16)] := if_neg hq
        have HQ := Aside0.mk hqq
        have hcase : (¬ 32 < c.toNat) ∨ (32 < c.toNat ∧ ¬ c.toNat < 127) ∨ (32 < c.toNat ∧ c.toNat < 127 ∧ c.toNat = 37) := by omega
        clear hqq hq
        have e1 : (c.toNat : Int) / 16 = ((c.toNat / 16 : Nat) : Int) := by omega
        have e2 : (c.toNat : Int) % 16 = ((c.toNat % 16 : Nat) : Int) := by omega
        have i1 := hex_cut (c.toNat / 16) (by omega)
        have i2 := hex_cut (c.toNat % 16) (by omega)
        have b1 : c.toNat / 16 < 16 := by omega
        have b2 : c.toNat % 16 < 16 := by omega
        obtain ⟨n1, hn1⟩ : ∃ n1, n1 = c.toNat / 16 := ⟨_, rfl⟩
        obtain ⟨n2, hn2⟩ : ∃ n2, n2 = c.toNat % 16 := ⟨_, rfl⟩
        rw [← hn1] at e1 i1 HQ b1
        rw [← hn2] at e2 i2 HQ b2
        clear hn1 hn2
        rcases hcase with q1 | ⟨q1, q2⟩ | ⟨q1, q2, q3⟩
        · have d1 : decide ((33 : Int) ≤ (c.toNat : Int)) = false := by simp; omega
          clear q1
          go_wp2_with fail
          go_quiet (fail)
          go_wp2
          go_roundw
          case rel => exact ⟨k + 1, by omega, by rw [HN.out, HQ.out]; exact congrArg Value.string (hex_join S _ n1 n2 HS.out i1 i2), by go_num, HB.out.trans ⟨rfl, rfl, rfl, Nat.le_refl _, fun _ _ => rfl⟩⟩
          case measure => simp [intOf]; omega
        · have d1 : decide ((33 : Int) ≤ (c.toNat : Int)) = true := by simp; omega
          have d2 : decide ((c.toNat : Int) ≤ 126) = false := by simp; omega
          clear q1 q2
          go_wp2_with fail
          go_quiet (fail)
          go_wp2
          go_roundw
          case rel => exact ⟨k + 1, by omega, by rw [HN.out, HQ.out]; exact congrArg Value.string (hex_join S _ n1 n2 HS.out i1 i2), by go_num, HB.out.trans ⟨rfl, rfl, rfl, Nat.le_refl _, fun _ _ => rfl⟩⟩
          case measure => simp [intOf]; omega
        · have d1 : decide ((33 : Int) ≤ (c.toNat : Int)) = true := by simp; omega
          have d2 : decide ((c.toNat : Int) ≤ 126) = true := by simp; omega
          have d3 : ((c.toNat : Int) != 37) = false := by simp; omega
          clear q1 q2 q3
          go_wp2_with fail
          go_quiet (fail)
          go_wp2
          go_roundw
          case rel => exact ⟨k + 1, by omega, by rw [HN.out, HQ.out]; exact congrArg Value.string (hex_join S _ n1 n2 HS.out i1 i2), by go_num, HB.out.trans ⟨rfl, rfl, rfl, Nat.le_refl _, fun _ _ => rfl⟩⟩
          case measure => simp [intOf]; omega
    · obtain rfl : k = a.length := by omega
      rw [List.take_length]
      have hz := bs_size a
      clear hlt hk
      go_wp2
      go_ret
      exact ⟨rfl, HB.out⟩
def sheetpileref08_Quote.f (a0 : ByteArray) : Option ByteArray := if a0.size ≤ 10000000 then some (bs (quoteL a0.data.toList)) else none
theorem refQuote_empty (w : World) : Calls Try.prog 23 #[.string ⟨#[]⟩] w fun e w' => e = .returned (.string ⟨#[37]⟩) ∧ Below w.heap.size w w' := by
  go_enter Try.func23, Try.ntmps23
  go_wp2
  go_ret
  exact ⟨rfl, Below.refl _ _⟩
theorem sheetpileref08_Quote.calls (a0 : ByteArray) (r : ByteArray) (w : World) (h : sheetpileref08_Quote.f a0 = some r) :
    Calls Try.prog 23 #[.string a0] w fun e w' => e = .returned (.string r) ∧ Below w.heap.size w w' := by
  unfold sheetpileref08_Quote.f at h
  split at h
  · rename_i hs
    injection h with h
    rw [← h]
    by_cases h0 : a0.data.toList = []
    · have e : a0 = ⟨#[]⟩ := by rw [bs_of a0, h0]; rfl
      rw [e]; exact refQuote_empty w
    · have := refQuote_walk a0.data.toList (by simpa using hs) h0 w
      rw [← bs_of] at this
      have e : quoteL a0.data.toList = a0.data.toList.flatMap quoteB := if_neg h0
      rw [e]; exact this
  · cases h
end Go.Proofs.Ytdkaokjnfkfngaa.Given
