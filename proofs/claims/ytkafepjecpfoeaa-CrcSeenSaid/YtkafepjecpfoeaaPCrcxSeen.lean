/- The law CrcSeen walked: where its guards let an input in, a change within four bytes is seen; else the live answers are given. Every text of at most 2^48 bytes. -/
import Derived.Test.YtkafepjecpfoeaaProg
import Derived.Below
import Derived.Deep.Draws
import Derived.Deep.AppendLies
import Derived.Maps.AppendAt
import Derived.OwnWalk
import Derived.Laws.BytesArg
import Derived.Laws.MakeOwn
import Derived.Laws.OwnMore
import Derived.Deep.OwnRows
import Derived.Tactics
import Derived.Lib.ConvBytes
import Derived.Laws.Slices
import Derived.WalkKit
import Derived.KernelRfl
import Derived.RowKit3
import Derived.Deep.LoopGhost
import Derived.Deep.QuietTactic
import Derived.BigQuiet
import Derived.WideLaws
import Derived.Deep.DeepCutAuto
import Derived.Deep.CutBlock
import Derived.Deep.RegionHeld3
import Derived.Laws.Rows
import Derived.Lib.AppendStr
import Derived.ArgAppend
import Derived.Laws.IdiomCopy
import Derived.OrdersHeld
import Derived.Laws.BitsLemmas
import Derived.RowKit
import Derived.Test.YtkafepjecpfoeaaWWords
import Derived.Test.YtkafepjecpfoeaaWLast
import Derived.Test.YtkafepjecpfoeaaWTab
import Derived.Test.YtkafepjecpfoeaaWFour
import Derived.Test.YtkafepjecpfoeaaWQPut
import Derived.Test.YtkafepjecpfoeaaWApart
import Derived.Test.YtkafepjecpfoeaaWArr
import Derived.Test.YtkafepjecpfoeaaWZeros
import Derived.Test.YtkafepjecpfoeaaWFoot
import Derived.Test.YtkafepjecpfoeaaWKept
import Derived.Test.YtkafepjecpfoeaaWShare
import Derived.Test.YtkafepjecpfoeaaWN
import Derived.Test.YtkafepjecpfoeaaWFootNe
import Derived.Test.YtkafepjecpfoeaaWAt
import Derived.Test.YtkafepjecpfoeaaWEqStruct
import Derived.Test.YtkafepjecpfoeaaWRepsOne
import Derived.Test.YtkafepjecpfoeaaWInv
import Derived.Test.YtkafepjecpfoeaaWInvWords
import Derived.Test.YtkafepjecpfoeaaWGuard
import Derived.Test.YtkafepjecpfoeaaWNEv
import Derived.Test.YtkafepjecpfoeaaWMore
import Derived.Test.YtkafepjecpfoeaaPCrcx1
import Derived.Test.YtkafepjecpfoeaaPureCrcBase
import Derived.Test.YtkafepjecpfoeaaSeenPlain
import Derived.Test.YtkafepjecpfoeaaBs
import Derived.Laws.BitsAllLaws
namespace Go.Proofs.Ytkafepjecpfoeaa.PCrc
open Go.RowKit Go.Proofs.Ytkafepjecpfoeaa.PCrc Go.Proofs.Ytkafepjecpfoeaa.Pure Go.Proofs.Ytkafepjecpfoeaa.Bs Go.Proofs.Ytkafepjecpfoeaa.CrcPlain Go.Proofs.YtkafepjecpfoeaaW.PrintWords Go.Proofs.YtkafepjecpfoeaaW.PrintLast Go.Proofs.YtkafepjecpfoeaaW.PrintMore
set_option linter.unusedVariables false
set_option linter.unusedSimpArgs false
/-- A row of bytes of the call's own, at block g. -/
def BRow (w wr : World) (g : Nat) (l : List UInt8) : Prop := w.heap.size ≤ g ∧ Below w.heap.size w wr ∧ ∀ j, j < l.length → wr.cell? ⟨g, j, none⟩ = some (.int .u8 ((l[j]?.getD 0).toNat : Int)) ∧ wr.frozen? ⟨g, j, none⟩ = false
theorem BRow.start (w : World) (e : TypeId) (l : List UInt8) : BRow w (Lib.bytesWorld w e (bs l)) w.heap.size l := by
  refine ⟨Nat.le_refl _, bytes_below (Below.refl _ _) (Nat.le_refl _) e _, fun j hj => ⟨?_, ?_⟩⟩
  · have := Lib.bytesWorld_cell w e (bs l) j (by rw [bs_size]; exact hj)
    rw [bs_data] at this
    simpa using this
  · have hj' : j < (Lib.bytesCells w e (bs l)).size := by
      have := bs_size l
      simp [Lib.bytesCells]; omega
    simp [World.frozen?, Lib.bytesWorld_at_new]
    omega
theorem BRow.put {w wr : World} {g : Nat} {l : List UInt8} (h : BRow w wr g l) (i : Nat) (c : UInt8) (hi : i < l.length) : BRow w (wr.setCell ⟨g, i, none⟩ (.int .u8 (c.toNat : Int))) g (l.set i c) := by
  obtain ⟨h1, h2, h3⟩ := h
  refine ⟨h1, h2.setCell h1 _, fun j hj => ⟨?_, ?_⟩⟩
  · rw [List.length_set] at hj
    by_cases e : i = j
    · subst e
      rw [World.cell?_setCell_same' _ _ _ (by rw [(h3 i hi).1]; rfl)]
      simp [hi]
    · rw [World.cell?_setCell_other _ _ _ _ (by simp [Ne.symm e])]
      rw [(h3 j hj).1, List.getElem?_set_ne e]
  · rw [World.frozen?_setCell]; rw [List.length_set] at hj; exact (h3 j hj).2
theorem BRow.reads {w wr : World} {g : Nat} {l : List UInt8} (h : BRow w wr g l) (hl : l.length ≤ 9223372036854775807) : ReadsInt wr .u8 (some ⟨g, 0, none⟩) l.length (numsOf l) := by
  refine ⟨by rw [numsOf_length], hl, fun _ => ⟨_, rfl, fun j hj => ?_⟩⟩
  rw [add_plain, (h.2.2 j hj).1]
  simp [numsOf, List.getD_eq_getElem?_getD, hj]
theorem xor_byte (c : UInt8) (d : Nat) (hd : d < 256) : bits BinOp.xor IntKind.u8 (c.toNat : Int) (d : Int) = (((c ^^^ UInt8.ofNat d).toNat : Nat) : Int) := by
  rw [u8_xor_nat c.toNat d c.toNat_lt hd, UInt8.toNat_xor]
  have : (UInt8.ofNat d).toNat = d := by simp [UInt8.toNat_ofNat', Nat.mod_eq_of_lt hd]
  rw [this]
set_option maxHeartbeats 1000000 in
set_option maxRecDepth 100000 in
theorem seen_walk (l : List UInt8) (a b : Nat) (hl : l.length ≤ 1000) (ha : a + 4 ≤ l.length) (hb : b < 4294967296) (h0 : b ≠ 0) (w : World) :
    Calls Try.prog 5 #[.string (bs l), .int .i64 a, .int .u32 b] w fun e w' => e = .returned (.bool true) ∧ Below w.heap.size w w' := by
  have kb := fun W => print_bytes (P := Try.prog) 9 28 5 Try.underlying9 Try.underlying28 Try.underlying5 (bs l) W
  have hsz : (bs l).size = l.length := bs_size l
  rw [hsz] at kb
  have d1 : decide ((1000 : Int) < (l.length : Int)) = false := by simp; omega
  have d2 : decide ((a : Int) < 0) = false := by simp
  have d3 : decide ((l.length : Int) - 4 < (a : Int)) = false := by simp; omega
  have d4 : ((b : Int) == 0) = false := by simp; omega
  go_enter Try.func5, Try.ntmps5
  go_wp2
  have hB := BRow.start w 5 l
  revert hB
  generalize Lib.bytesWorld w 5 (bs l) = W1
  generalize grownCap w l.length 0 5 = cap
  intro hB
  clear kb hsz d1 d2 d3 d4
  go_loopw [8] (fun v8 wr => ∃ k : Nat, k ≤ 4 ∧ v8 = .int .i64 k ∧ BRow w wr w.heap.size (turnB a b k l)) (fun v8 _ => 4 - (intOf v8).toNat)
  case atStart => exact ⟨0, by omega, rfl, hB⟩
  case round =>
    obtain ⟨k, hk, rfl, hm⟩ := hrel
    have hlen := turnB_length a b k l
    by_cases hlt : k < 4
    · have hi : a + k < (turnB a b k l).length := by omega
      obtain ⟨hc, hf⟩ := hm.2.2 (a + k) hi
      have hput := fun c => hm.put (a + k) c hi
      have htn : turnB a b (k + 1) l = (turnB a b k l).set (a + k) ((turnB a b k l)[a + k]?.getD 0 ^^^ UInt8.ofNat (b / 256 ^ k % 256)) := rfl
      obtain ⟨c, hcd⟩ : ∃ c, c = (turnB a b k l)[a + k]?.getD 0 := ⟨_, rfl⟩
      rw [← hcd] at hc htn
      clear hcd
      have hx := xor_byte c (b / 256 ^ k % 256) (Nat.mod_lt _ (by decide))
      have HP := Aside0.mk hput
      have HT := Aside0.mk htn
      have HX := Aside0.mk hx
      clear hput htn hm hi hlen hx hB
      have hc1 := c.toNat_lt
      have p2 : (256 : Nat) ^ 2 = 65536 := by decide
      have p3 : (256 : Nat) ^ 3 = 16777216 := by decide
      have hcase : k = 0 ∨ k = 1 ∨ k = 2 ∨ k = 3 := by omega
      rcases hcase with rfl | rfl | rfl | rfl
      · have HE : Aside0 ((b : Int) % 256 = ((b / 256 ^ 0 % 256 : Nat) : Int)) := ⟨by rw [Nat.pow_zero, Nat.div_one]; omega⟩
        clear p2 p3
        simp only [Nat.add_zero] at hc hf
        go_wp2
        go_roundw
        case rel => exact ⟨1, by omega, rfl, by rw [HT.out, HE.out, HX.out]; exact HP.out _⟩
        case measure => simp [intOf]
      · have HE : Aside0 ((b : Int) / 256 % 256 = ((b / 256 ^ 1 % 256 : Nat) : Int)) := ⟨by rw [Nat.pow_one]; omega⟩
        clear p2 p3
        go_wp2
        go_roundw
        case rel => exact ⟨2, by omega, rfl, by rw [HT.out, HE.out, HX.out]; exact HP.out _⟩
        case measure => simp [intOf]
      · have HE : Aside0 ((b : Int) / 65536 % 256 = ((b / 256 ^ 2 % 256 : Nat) : Int)) := ⟨by rw [p2]; omega⟩
        clear p2 p3
        go_wp2
        go_roundw
        case rel => exact ⟨3, by omega, rfl, by rw [HT.out, HE.out, HX.out]; exact HP.out _⟩
        case measure => simp [intOf]
      · have HE : Aside0 ((b : Int) / 16777216 = ((b / 256 ^ 3 % 256 : Nat) : Int)) := ⟨by rw [p3]; omega⟩
        clear p2 p3
        go_wp2
        go_roundw
        case rel => exact ⟨4, by omega, rfl, by rw [HT.out, HE.out, HX.out]; exact HP.out _⟩
        case measure => simp [intOf]
    · obtain rfl : k = 4 := by omega
      have hcv := string_of_reads (P := Try.prog) (c := cap) Try.underlying28 Try.underlying5 Try.underlying9 (hm.reads (by omega))
      rw [strOfNums_numsOf, hlen] at hcv
      have hne := more_turned l a b ha hb h0
      have hs1 := crc_Sum_f (bs (turnB a b 4 l)) (by rw [bs_size]; omega)
      have hs2 := crc_Sum_f (bs l) (by rw [bs_size]; omega)
      rw [bs_data] at hs1 hs2
      have hBw := hm.2.1
      obtain ⟨m1, hm1⟩ : ∃ m1, m1 = more 0 (turnB a b 4 l) := ⟨_, rfl⟩
      obtain ⟨m2, hm2⟩ : ∃ m2, m2 = more 0 l := ⟨_, rfl⟩
      rw [← hm1] at hs1 hne
      rw [← hm2] at hs2 hne
      have hd : ((m1 : Int) != (m2 : Int)) = true := by simp; omega
      have S1 := Aside0.mk hs1
      have S2 := Aside0.mk hs2
      have HB := Aside0.mk hBw
      clear hs1 hs2 hm1 hm2 hBw hB hm hlen hne
      go_wp2_with (first | (go_at_call 16; first | (with_reducible refine (crc_Sum.calls _ _ _ S1.out).mono ?_; rintro e w2 ⟨rfl, hb2⟩; have HB2 := Aside0.mk hb2; clear hb2; clear S1) | (with_reducible refine (crc_Sum.calls _ _ _ S2.out).mono ?_; rintro e w3 ⟨rfl, hb3⟩; have HB3 := Aside0.mk hb3; clear hb3)) | (go_at_call 15; refine (sheetpilelaw06_live.calls true _ live06).mono ?_; rintro e w4 ⟨rfl, hb4⟩; have HB4 := Aside0.mk hb4; clear hb4))
      go_ret
      exact ⟨rfl, below_step (below_step (below_step HB.out HB2.out) HB3.out) HB4.out⟩
set_option maxHeartbeats 1000000 in
set_option maxRecDepth 100000 in
theorem seen_guard (l : List UInt8) (a b : Int) (hl : l.length ≤ 281474976710656) (ha0 : -9223372036854775808 ≤ a) (ha1 : a < 9223372036854775808) (h : 1000 < l.length ∨ a < 0 ∨ (l.length : Int) - 4 < a ∨ b = 0) (w : World) :
    Calls Try.prog 5 #[.string (bs l), .int .i64 a, .int .u32 b] w fun e w' => e = .returned (.bool true) ∧ Below w.heap.size w w' := by
  have hsz : (bs l).size = l.length := bs_size l
  by_cases h1 : 1000 < l.length
  · have d1 : decide ((1000 : Int) < (l.length : Int)) = true := by simp; omega
    clear h
    go_enter Try.func5, Try.ntmps5
    go_wp2_with (first | (go_at_call 15; refine (sheetpilelaw06_live.calls true _ live06).mono ?_; rintro e w4 ⟨rfl, hb4⟩; have HB4 := Aside0.mk hb4; clear hb4))
    go_ret
    exact ⟨rfl, HB4.out⟩
  · have d1 : decide ((1000 : Int) < (l.length : Int)) = false := by simp; omega
    by_cases h2 : a < 0
    · have d2 : decide (a < 0) = true := by simpa using h2
      clear h
      go_enter Try.func5, Try.ntmps5
      go_wp2_with (first | (go_at_call 15; refine (sheetpilelaw06_live.calls true _ live06).mono ?_; rintro e w4 ⟨rfl, hb4⟩; have HB4 := Aside0.mk hb4; clear hb4))
      go_ret
      exact ⟨rfl, HB4.out⟩
    · have d2 : decide (a < 0) = false := by simpa using h2
      by_cases h3 : (l.length : Int) - 4 < a
      · have d3 : decide ((l.length : Int) - 4 < a) = true := by simpa using h3
        clear h
        go_enter Try.func5, Try.ntmps5
        go_wp2_with (first | (go_at_call 15; refine (sheetpilelaw06_live.calls true _ live06).mono ?_; rintro e w4 ⟨rfl, hb4⟩; have HB4 := Aside0.mk hb4; clear hb4))
        go_ret
        exact ⟨rfl, HB4.out⟩
      · have d3 : decide ((l.length : Int) - 4 < a) = false := by simpa using h3
        have hb : b = 0 := by omega
        subst hb
        clear h
        go_enter Try.func5, Try.ntmps5
        go_wp2_with (first | (go_at_call 15; refine (sheetpilelaw06_live.calls true _ live06).mono ?_; rintro e w4 ⟨rfl, hb4⟩; have HB4 := Aside0.mk hb4; clear hb4))
        go_ret
        exact ⟨rfl, HB4.out⟩
def sheetpilelaw06_CrcSeen.f (k : Nat) (a0 : ByteArray) (a1 : Int) (a2 : Int) : Option Bool := if a0.size ≤ 281474976710656 ∧ (Lit.int .i64 a1).wf = true ∧ (Lit.int .u32 a2).wf = true then some true else none
theorem sheetpilelaw06_CrcSeen.calls (k : Nat) (a0 : ByteArray) (a1 : Int) (a2 : Int) (r : Bool) (w : World) (h : sheetpilelaw06_CrcSeen.f k a0 a1 a2 = some r) :
    Calls Try.prog 5 #[.string a0, .int .i64 a1, .int .u32 a2] w fun e w' => e = .returned (.bool r) ∧ Below w.heap.size w w' := by
  unfold sheetpilelaw06_CrcSeen.f at h
  split at h
  · rename_i hh
    obtain ⟨h1, h2, h3⟩ := hh
    cases h
    obtain ⟨l, rfl⟩ := ex_bs a0
    obtain ⟨b, rfl, hb⟩ := Bs.u32_wf h3
    obtain ⟨a0', a1'⟩ := i64_wf h2
    rw [bs_size] at h1
    by_cases hc : 1000 < l.length ∨ a1 < 0 ∨ (l.length : Int) - 4 < a1 ∨ (b : Int) = 0
    · exact seen_guard l a1 b h1 a0' a1' hc w
    · obtain ⟨a, rfl⟩ := Int.eq_ofNat_of_zero_le (show 0 ≤ a1 by omega)
      exact seen_walk l a b (by omega) (by omega) hb (by omega) w
  · cases h
end Go.Proofs.Ytkafepjecpfoeaa.PCrc
