/- The contract of crc.More (and of the table that it makes): at each number of 32 bits and each text of at most 2^48 bytes it returns the sum that the plain fold gives, and leaves what was there alone. -/
import Derived.Test.YtmnpejoolbipeaaProg
import Derived.Below
import Derived.Deep.Draws
import Derived.Deep.AppendLies
import Derived.Maps.AppendAt
import Derived.OwnWalk
import Derived.Laws.BytesArg
import Derived.Laws.MakeOwn
import Derived.Laws.OwnMore
import Derived.Deep.OwnRows
import Derived.Tactics
import Derived.Lib.ConvBytes
import Derived.Laws.Slices
import Derived.WalkKit
import Derived.KernelRfl
import Derived.RowKit3
import Derived.Deep.LoopGhost
import Derived.Deep.QuietTactic
import Derived.BigQuiet
import Derived.WideLaws
import Derived.Deep.DeepCutAuto
import Derived.Deep.CutBlock
import Derived.Deep.RegionHeld3
import Derived.Laws.Rows
import Derived.Lib.AppendStr
import Derived.ArgAppend
import Derived.Laws.IdiomCopy
import Derived.OrdersHeld
import Derived.Laws.BitsLemmas
import Derived.RowKit
import Derived.Test.YtmnpejoolbipeaaWWords
import Derived.Test.YtmnpejoolbipeaaWLast
import Derived.Test.YtmnpejoolbipeaaWTab
import Derived.Test.YtmnpejoolbipeaaWFour
import Derived.Test.YtmnpejoolbipeaaWQPut
import Derived.Test.YtmnpejoolbipeaaWApart
import Derived.Test.YtmnpejoolbipeaaWArr
import Derived.Test.YtmnpejoolbipeaaWZeros
import Derived.Test.YtmnpejoolbipeaaWFoot
import Derived.Test.YtmnpejoolbipeaaWKept
import Derived.Test.YtmnpejoolbipeaaWShare
import Derived.Test.YtmnpejoolbipeaaWN
import Derived.Test.YtmnpejoolbipeaaWFootNe
import Derived.Test.YtmnpejoolbipeaaWAt
import Derived.Test.YtmnpejoolbipeaaWEqStruct
import Derived.Test.YtmnpejoolbipeaaWRepsOne
import Derived.Test.YtmnpejoolbipeaaWInv
import Derived.Test.YtmnpejoolbipeaaWInvWords
import Derived.Test.YtmnpejoolbipeaaWGuard
import Derived.Test.YtmnpejoolbipeaaWNEv
import Derived.Test.YtmnpejoolbipeaaWMore
import Derived.Test.YtmnpejoolbipeaaCrcPlain
import Derived.Laws.BitsAllLaws
import Derived.Laws.CopyOwn
namespace Go.Proofs.Ytmnpejoolbipeaa.Given
open Go.RowKit Go.Proofs.YtmnpejoolbipeaaW.PrintWords Go.Proofs.YtmnpejoolbipeaaW.PrintLast Go.Proofs.YtmnpejoolbipeaaW.PrintMore
open Go.Proofs.Ytmnpejoolbipeaa.CrcPlain
set_option linter.unusedVariables false
set_option linter.unusedSimpArgs false
def tabV (k : Nat) : Array Value := ((List.range 16).map fun i => if i < k then Value.int .u32 (bitN 4 i : Nat) else .int .u32 0).toArray
def Mk (w wr : World) (k : Nat) : Prop := wr.heap[w.heap.size]? = some (.cells (tabV 0) 121 (0, 0)) ∧ wr.heap[w.heap.size + 1]? = some (.cells (tabV k) 121 (0, 0)) ∧ Below w.heap.size w wr
theorem tabV_size (k : Nat) : (tabV k).size = 16 := by simp [tabV]
theorem tabV_get (k i : Nat) (h : i < 16) : (tabV k)[i]? = some (if i < k then Value.int .u32 (bitN 4 i : Nat) else .int .u32 0) := by
  simp [tabV, List.getElem?_range, h]
theorem tabV_set (k : Nat) (h : k < 16) : (tabV k).setIfInBounds k (.int .u32 (bitN 4 k : Nat)) = tabV (k + 1) := by
  apply Array.ext_getElem?
  intro i
  by_cases hi : i < 16
  · rw [tabV_get _ _ hi, Array.getElem?_setIfInBounds]
    by_cases e : k = i
    · subst e; simp [tabV_size, h]
    · rw [if_neg e, tabV_get _ _ hi]
      by_cases h1 : i < k
      · rw [if_pos h1, if_pos (by omega)]
      · rw [if_neg h1, if_neg (by omega)]
  · rw [Array.getElem?_eq_none (by simp [tabV_size]; omega), Array.getElem?_eq_none (by simp [tabV_size]; omega)]
theorem bit_and (x : Nat) (h : x < 4294967296) : bits .and .u32 (x : Int) 1 = ((x % 2 : Nat) : Int) := by
  have := u32_and_nat x 1 h (by decide)
  rw [show ((1 : Nat) : Int) = 1 from rfl] at this
  rw [this, Nat.and_one_is_mod]
theorem bit_xor (x : Nat) (h : x < 4294967296) : bits .xor .u32 ((x : Int) / 2) 2197175160 = ((x / 2 ^^^ poly : Nat) : Int) := by
  have := u32_xor_nat (x / 2) 2197175160 (by omega) (by decide)
  rw [show (2197175160 : Int) = ((2197175160 : Nat) : Int) from rfl, show ((x : Int) / 2) = ((x / 2 : Nat) : Int) from by omega, this]; rfl
theorem int_eq {k : IntKind} {a b : Int} (h : a = b) : Value.int k a = Value.int k b := by rw [h]
theorem wp_tab0 : (#[Value.int IntKind.u32 0, Value.int IntKind.u32 0, Value.int IntKind.u32 0, Value.int IntKind.u32 0, Value.int IntKind.u32 0, Value.int IntKind.u32 0, Value.int IntKind.u32 0, Value.int IntKind.u32 0, Value.int IntKind.u32 0, Value.int IntKind.u32 0, Value.int IntKind.u32 0, Value.int IntKind.u32 0, Value.int IntKind.u32 0, Value.int IntKind.u32 0, Value.int IntKind.u32 0, Value.int IntKind.u32 0] : Array Value) = tabV 0 := rfl
theorem Mk.start (w : World) : Mk w ((w.alloc (.cells (tabV 0) 121)).alloc (.cells (tabV 0) 121)) 0 :=
  ⟨heap_alloc2_old _ _ _, heap_alloc2_new _ _ _, ((Below.refl _ _).alloc (Nat.le_refl _) _).alloc (by simp) _⟩
theorem Mk.put {w wr : World} {k : Nat} (h : Mk w wr k) (hk : k < 16) : Mk w (wr.setCell ⟨w.heap.size + 1, k, none⟩ (.int .u32 (bitN 4 k : Nat))) (k + 1) := by
  obtain ⟨h1, h2, hb⟩ := h
  refine ⟨?_, ?_, hb.setCell (by simp) _⟩
  · rw [heap_setCell_other _ _ _ _ (by simp)]; exact h1
  · rw [heap_setCell_same _ _ _ _ _ _ h2, tabV_set k hk]
set_option maxHeartbeats 400000 in
set_option maxRecDepth 100000 in
theorem make1_any (w : World) : Calls Try.prog 77 #[] w fun e w' => e = .returned (.agg (tabV 16)) ∧ Below w.heap.size w w' := by
  go_enter Try.func77, Try.ntmps77
  go_wp2
  go_loopw [4] (fun v4 wr => ∃ k : Nat, k ≤ 16 ∧ v4 = .int .i64 k ∧ Mk w wr k) (fun v4 _ => 16 - (intOf v4).toNat)
  case atStart => exact ⟨0, by omega, rfl, Mk.start w⟩
  case round =>
    obtain ⟨k, hk, rfl, hm⟩ := hrel
    by_cases hlt : k < 16
    · have hd : decide ((k : Int) < 16) = true := by simp; omega
      have hc : wr.cell? ⟨w.heap.size + 1, k, none⟩ = some (.int .u32 0) := by
        rw [blk_cell hm.2.1, tabV_get _ _ hlt, if_neg (by omega)]
      have hf : wr.frozen? ⟨w.heap.size + 1, k, none⟩ = false := blk_frozen hm.2.1 _
      go_wp2
      go_loop [3, 9] (fun v3 v9 => ∃ j : Nat, j ≤ 4 ∧ v9 = .int .i64 j ∧ v3 = .int .u32 (bitN j k : Nat)) (fun _ v9 => 4 - (intOf v9).toNat)
      case atStart => exact ⟨0, by omega, rfl, rfl⟩
      case round =>
        obtain ⟨j, hj, rfl, rfl⟩ := hrel
        by_cases hjl : j < 4
        · have hx1 : bitN j k < 4294967296 := bitN_lt j (by omega)
          have hu : bitN (j + 1) k = bit1 (bitN j k) := rfl
          obtain ⟨x, hx⟩ : ∃ x, x = bitN j k := ⟨_, rfl⟩
          rw [← hx] at hx1 hu
          rw [← hx]
          clear hx
          have hu' := Aside0.mk hu
          clear hu
          go_wp2
          · have ht : (bits BinOp.and IntKind.u32 (x : Int) 1 != 0) = true := by assumption
            rw [bit_and x hx1] at ht
            go_round
            case rel =>
              refine ⟨j + 1, by omega, by go_num, ?_⟩
              rw [hu'.out, bit_xor x hx1]
              unfold bit1
              have : x % 2 = 1 := by simp at ht; omega
              rw [if_pos this]
            case measure => simp [intOf]; omega
          · have ht : (bits BinOp.and IntKind.u32 (x : Int) 1 != 0) = false := by assumption
            rw [bit_and x hx1] at ht
            go_round
            case rel =>
              refine ⟨j + 1, by omega, by go_num, ?_⟩
              rw [hu'.out]
              unfold bit1
              have : ¬ x % 2 = 1 := by simp at ht; omega
              rw [if_neg this]
              exact int_eq (by omega)
            case measure => simp [intOf]; omega
        · obtain rfl : j = 4 := by omega
          go_wp2
          go_roundw
          case rel => exact ⟨k + 1, by omega, by go_num, hm.put hlt⟩
          case measure => simp [intOf]; omega
    · obtain rfl : k = 16 := by omega
      obtain ⟨h1, h2, hb⟩ := hm
      go_wp2_with (first | (refine wpList_load_row rfl 121 _ rfl _ rfl 121 _ _ _ h2 Try.underlying121 rfl (by kernel_rfl) ?_) | (refine wpList_store_row rfl 121 _ _ rfl _ _ rfl rfl 121 _ h1 (by kernel_rfl) rfl (by kernel_rfl) ?_))
      refine bodyPost_ret (v := .agg (tabV 16)) (results_cell_row Try.results77 _ _ _ 121 (tabV 16) (0, 0) _ rfl (setRow_heap _ _ _ _ _ _ h1) Try.underlying121 rfl (by kernel_rfl)) rfl ⟨rfl, ?_⟩
      exact below_setRow hb (Nat.le_refl _) _
theorem load_tab {wr : World} {g : Nat} (h : wr.heap[g]? = some (.cells (tabV 16) 121 (0, 0))) (i : Nat) (hi : i < 16) : wr.cell? ⟨g, i, none⟩ = some (.int .u32 (bitN 4 i : Nat)) := by
  rw [blk_cell h, tabV_get _ _ hi, if_pos hi]
theorem bit_neg (x : Nat) (h : x < 4294967296) : bits BinOp.xor IntKind.u32 IntKind.u32.max (x : Int) = (neg x : Nat) := by
  have := u32_xor_nat 4294967295 x (by decide) h
  rw [show IntKind.u32.max = ((4294967295 : Nat) : Int) from by decide, this, Nat.xor_comm]; rfl
theorem bit_xor2 (x y : Nat) (h : x < 4294967296) (h2 : y < 4294967296) : bits BinOp.xor IntKind.u32 (x : Int) (y : Int) = ((x ^^^ y : Nat) : Int) := u32_xor_nat x y h h2
theorem store_tab {ops : Array Oper} {rest : List Oper} {o : Oper} {a : Act} {w w1 : World} {Q : Exit → Act → World → Prop} (hgd : o.guard = none) (x y : Operand) (ho : o.op = .store 121 x y)
    (hx : a.eval x = .pointer (some ⟨w1.heap.size, 0, none⟩)) (hy : a.eval y = .agg (tabV 16)) (hb : Below w.heap.size w w1)
    (h : ∀ W2, Aside0 (Below w.heap.size w W2) → Aside0 (W2.heap[w1.heap.size]? = some (.cells (tabV 16) 121 (0, 0))) → wpList Try.prog ops Q rest (a.put o.dst undef) W2) :
    wpList Try.prog ops Q (o :: rest) a (w1.alloc (.cells (tabV 0) 121)) :=
  wpList_store_row hgd 121 x y ho w1.heap.size (tabV 16) hx hy 121 (tabV 0) (heap_alloc_new _ _) (by kernel_rfl) (by rw [tabV_size, tabV_size]) (by kernel_rfl)
    (h _ ⟨below_setRow (hb.alloc hb.size (.cells (tabV 0) 121)) hb.size (tabV 16)⟩ ⟨setRow_heap (w1.alloc (.cells (tabV 0) 121)) w1.heap.size (tabV 0) (tabV 16) 121 (0, 0) (heap_alloc_new _ _)⟩)
set_option maxHeartbeats 400000 in
set_option maxRecDepth 100000 in
theorem more_any (a0 : Nat) (a1 : ByteArray) (h0 : a0 < 4294967296) (h1 : a1.size ≤ 281474976710656) (w : World) :
    Calls Try.prog 68 #[.int .u32 a0, .string a1] w fun e w' => e = .returned (.int .u32 (more a0 a1.data.toList : Nat)) ∧ Below w.heap.size w w' := by
  have kb := fun W => print_bytes (P := Try.prog) 9 99 5 Try.underlying9 Try.underlying99 Try.underlying5 a1 W
  have kn := bit_neg a0 h0
  have hn0 := neg_lt h0
  obtain ⟨nx, hnx⟩ : ∃ nx, nx = neg a0 := ⟨_, rfl⟩
  rw [← hnx] at kn hn0
  have Hnx := Aside0.mk hnx
  clear hnx
  go_enter Try.func68, Try.ntmps68
  go_wp2_with (first | (go_at_call 77; refine (make1_any _).mono ?_; rintro e w1 ⟨rfl, hb1⟩) | (rw [wp_tab0]; refine store_tab rfl _ _ rfl rfl rfl hb1 ?_; intro W2 HB HT; clear hb1))
  go_loop [6, 15] (fun v6 v15 => ∃ (k x : Nat), k ≤ a1.size ∧ v15 = .int .i64 k ∧ v6 = .int .u32 x ∧ x < 4294967296 ∧ Aside0 (x = CrcPlain.run nx (a1.data.toList.take k))) (fun _ v15 => a1.size - (intOf v15).toNat)
  case atStart => exact ⟨0, nx, by omega, rfl, rfl, hn0, ⟨rfl⟩⟩
  case round =>
    obtain ⟨k, x, hk, rfl, rfl, hx, hrun⟩ := hrel
    by_cases hlt : k < a1.size
    · have hl : k < a1.data.toList.length := by simpa using hlt
      obtain ⟨c, hcd⟩ : ∃ c, c = a1.data.toList[k] := ⟨_, rfl⟩
      have Hc := Aside0.mk hcd
      have hcell : (Lib.bytesWorld W2 5 a1).cell? ⟨W2.heap.size, k, none⟩ = some (.int .u8 (c.toNat : Int)) := by
        rw [Lib.bytesWorld_cell W2 5 a1 k hlt, hcd, List.getD_eq_getElem?_getD, List.getElem?_eq_getElem hl]; rfl
      clear hcd
      have hc1 : c.toNat < 256 := c.toNat_lt
      have hy := xor_lt32 hx (byte_lt c)
      obtain ⟨r, hr⟩ : ∃ r, r = CrcPlain.step x c := ⟨_, rfl⟩
      have hr1 : r < 4294967296 := by rw [hr]; exact step_lt hx c
      have e1 : bits BinOp.xor IntKind.u32 (x : Int) (c.toNat : Int) = ((x ^^^ c.toNat : Nat) : Int) := bit_xor2 _ _ hx (byte_lt c)
      have hr2 : r = _ := hr.trans (two_nibs (x ^^^ c.toNat))
      have Hr := Aside0.mk hr
      clear hr
      obtain ⟨y, hyd⟩ : ∃ y, y = x ^^^ c.toNat := ⟨_, rfl⟩
      rw [← hyd] at e1 hy hr2
      clear hyd
      obtain ⟨t1, ht1⟩ : ∃ t1, t1 = bitN 4 (y % 16) := ⟨_, rfl⟩
      have ht1l : t1 < 4294967296 := by rw [ht1]; exact bitN_lt 4 (by omega)
      have e2 : bits BinOp.xor IntKind.u32 ((y : Int) / 16) (t1 : Int) = ((y / 16 ^^^ t1 : Nat) : Int) := by
        rw [show ((y : Int) / 16) = ((y / 16 : Nat) : Int) from by omega]; exact bit_xor2 _ _ (by omega) ht1l
      have hcl : ∀ i, i < 16 → (Lib.bytesWorld W2 5 a1).cell? ⟨w1.heap.size, i, none⟩ = some (.int .u32 (bitN 4 i : Nat)) := fun i hi =>
        load_tab ((Lib.bytesWorld_at_old W2 5 a1 _ (blk_lt HT.out)).trans HT.out) i hi
      have hcell1 : (Lib.bytesWorld W2 5 a1).cell? ⟨w1.heap.size, y % 16, none⟩ = some (.int .u32 t1) := by
        rw [hcl _ (by omega), ht1]
      rw [← ht1] at hr2
      clear ht1
      have hz := xor_lt32 (a := y / 16) (b := t1) (by omega) ht1l
      obtain ⟨z, hzd⟩ : ∃ z, z = y / 16 ^^^ t1 := ⟨_, rfl⟩
      rw [← hzd] at e2 hr2 hz
      clear hzd
      obtain ⟨t2, ht2⟩ : ∃ t2, t2 = bitN 4 (z % 16) := ⟨_, rfl⟩
      have ht2l : t2 < 4294967296 := by rw [ht2]; exact bitN_lt 4 (by omega)
      have e3 : bits BinOp.xor IntKind.u32 ((z : Int) / 16) (t2 : Int) = (r : Int) := by
        rw [show ((z : Int) / 16) = ((z / 16 : Nat) : Int) from by omega, bit_xor2 _ _ (by omega) ht2l, hr2, ht2]
      have hcell2 : (Lib.bytesWorld W2 5 a1).cell? ⟨w1.heap.size, z % 16, none⟩ = some (.int .u32 t2) := by
        rw [hcl _ (by omega), ht2]
      clear ht2 hr2 hcl
      go_wp2
      go_round
      case rel =>
        refine ⟨k + 1, r, by omega, by go_num, rfl, hr1, ⟨?_⟩⟩
        rw [List.take_succ_eq_append_getElem hl, CrcPlain.run_append, ← hrun.out, Hr.out, Hc.out]; rfl
      case measure => simp [intOf]; omega
    · obtain rfl : k = a1.size := by omega
      have hn1 := neg_lt hx
      have e4 := bit_neg x hx
      obtain ⟨q, hq⟩ : ∃ q, q = neg x := ⟨_, rfl⟩
      rw [← hq] at e4
      have Hq := Aside0.mk hq
      clear hq
      go_wp2
      all_goals
        go_ret
        refine ⟨?_, bytes_below HB.out HB.out.size 5 a1⟩
        rw [Hq.out, hrun.out, Hnx.out, List.take_of_length_le (by simp)]; rfl
def crc_More.f (a0 : Int) (a1 : ByteArray) : Option (Int) := if 0 ≤ a0 then (if a0 < 4294967296 then (if a1.size ≤ 281474976710656 then some ((more a0.toNat a1.data.toList : Nat) : Int) else none) else none) else none
theorem crc_More.calls (a0 : Int) (a1 : ByteArray) (r : Int) (w : World) (h : crc_More.f a0 a1 = some r) :
    Calls Try.prog 68 #[.int .u32 a0, .string a1] w fun e w' => e = .returned (.int .u32 r) ∧ Below w.heap.size w w' := by
  unfold crc_More.f at h
  by_cases h0 : 0 ≤ a0
  · rw [if_pos h0] at h
    by_cases h1 : a0 < 4294967296
    · rw [if_pos h1] at h
      by_cases h2 : a1.size ≤ 281474976710656
      · rw [if_pos h2] at h
        obtain ⟨n, rfl⟩ := Int.eq_ofNat_of_zero_le h0
        simp only [Int.toNat_natCast, Option.some.injEq] at h
        subst h
        exact more_any n a1 (by omega) h2 w
      · rw [if_neg h2] at h; cases h
    · rw [if_neg h1] at h; cases h
  · rw [if_neg h0] at h; cases h
end Go.Proofs.Ytmnpejoolbipeaa.Given
