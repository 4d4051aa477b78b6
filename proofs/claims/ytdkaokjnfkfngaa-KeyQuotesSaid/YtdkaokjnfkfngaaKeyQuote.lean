/- key.Quote walked: at every text of at most 10000000 bytes it returns KeyPlain's text. -/
import Derived.Test.YtdkaokjnfkfngaaProg
import Derived.Below
import Derived.Deep.Draws
import Derived.Deep.AppendLies
import Derived.Maps.AppendAt
import Derived.OwnWalk
import Derived.Laws.BytesArg
import Derived.Laws.MakeOwn
import Derived.Laws.OwnMore
import Derived.Deep.OwnRows
import Derived.Tactics
import Derived.Lib.ConvBytes
import Derived.Laws.Slices
import Derived.WalkKit
import Derived.KernelRfl
import Derived.RowKit3
import Derived.Deep.LoopGhost
import Derived.Deep.QuietTactic
import Derived.BigQuiet
import Derived.WideLaws
import Derived.Deep.DeepCutAuto
import Derived.Deep.CutBlock
import Derived.Deep.RegionHeld3
import Derived.Laws.Rows
import Derived.Lib.AppendStr
import Derived.ArgAppend
import Derived.Laws.IdiomCopy
import Derived.OrdersHeld
import Derived.Laws.BitsLemmas
import Derived.RowKit
import Derived.Test.YtdkaokjnfkfngaaWWords
import Derived.Test.YtdkaokjnfkfngaaWLast
import Derived.Test.YtdkaokjnfkfngaaWTab
import Derived.Test.YtdkaokjnfkfngaaWFour
import Derived.Test.YtdkaokjnfkfngaaWQPut
import Derived.Test.YtdkaokjnfkfngaaWApart
import Derived.Test.YtdkaokjnfkfngaaWArr
import Derived.Test.YtdkaokjnfkfngaaWZeros
import Derived.Test.YtdkaokjnfkfngaaWFoot
import Derived.Test.YtdkaokjnfkfngaaWKept
import Derived.Test.YtdkaokjnfkfngaaWShare
import Derived.Test.YtdkaokjnfkfngaaWN
import Derived.Test.YtdkaokjnfkfngaaWFootNe
import Derived.Test.YtdkaokjnfkfngaaWAt
import Derived.Test.YtdkaokjnfkfngaaWEqStruct
import Derived.Test.YtdkaokjnfkfngaaWRepsOne
import Derived.Test.YtdkaokjnfkfngaaWInv
import Derived.Test.YtdkaokjnfkfngaaWInvWords
import Derived.Test.YtdkaokjnfkfngaaWGuard
import Derived.Test.YtdkaokjnfkfngaaWNEv
import Derived.Test.YtdkaokjnfkfngaaWMore
import Derived.Test.YtdkaokjnfkfngaaShelfW
import Derived.StillTailTactics
import Derived.Laws.BitsAllLaws
import Derived.Outline
import Derived.Test.YtdkaokjnfkfngaaBs
import Derived.Test.YtdkaokjnfkfngaaKeyPlain
namespace Go.Proofs.Ytdkaokjnfkfngaa.Given
open Go.RowKit Go.Proofs Go.Proofs.Ytdkaokjnfkfngaa.Bs Go.Proofs.Ytdkaokjnfkfngaa.KeyPlain Go.Proofs.YtdkaokjnfkfngaaW.PrintWords Go.Proofs.YtdkaokjnfkfngaaW.PrintLast Go.Proofs.YtdkaokjnfkfngaaW.PrintMore
set_option linter.unusedVariables false
set_option linter.unusedSimpArgs false
theorem bc_append (l m : List UInt8) : Lib.byteCells (l ++ m) = Lib.byteCells l ++ Lib.byteCells m := by simp [Lib.byteCells]
theorem bc_length (l : List UInt8) : (Lib.byteCells l).length = l.length := by simp [Lib.byteCells]
theorem BAt.drew {B b : Nat} {bs : List Value} {w : World} (h : BAt B b bs w) : BAt B b bs w.drew := h
theorem BAt.alloc {B b : Nat} {bs : List Value} {w : World} (h : BAt B b bs w) (o : Obj) : BAt B b bs (w.alloc o) := by
  obtain ⟨h1, h2, p, v, hp, hb, ho⟩ := h
  exact ⟨h1, by simp; omega, p, v, hp, blk_alloc hb o, ho.alloc o⟩
theorem three_cells (w : World) (x y z : Value) (e : TypeId) (hx : x.oneCell' = true) : ∀ j u, [x, y, z][j]? = some u → (w.alloc (.cells #[x, y, z] e)).cell? ⟨w.heap.size, j, none⟩ = some u := by
  intro j u hj
  rw [World.cell?_alloc_at _ _ _ _ rfl]
  match j, hj with
  | 0, hj => simpa using hj
  | 1, hj => simpa using hj
  | 2, hj => simpa using hj
theorem BAt.start (w W1 : World) (h : W1.heap[w.heap.size]? = some (.cells #[.pointer none, .slice none 0 0] 65 (0, 0))) (hs : W1.heap.size = w.heap.size + 2) : BAt (w.heap.size + 2) w.heap.size (Lib.byteCells []) W1 :=
  ⟨by omega, by omega, _, _, .inl rfl, h, by simp [Lib.byteCells], .inl ⟨rfl, rfl⟩⟩
theorem hex_index (n : Nat) (h : n < 16) (W : World) : (Instr.index 9 (.string ⟨#[48, 49, 50, 51, 52, 53, 54, 55, 56, 57, 65, 66, 67, 68, 69, 70]⟩) (.int .u8 (n : Int))).run Try.prog W = .ok (.int .u8 ((hexB n).toNat : Int)) W := by
  have hc : n = 0 ∨ n = 1 ∨ n = 2 ∨ n = 3 ∨ n = 4 ∨ n = 5 ∨ n = 6 ∨ n = 7 ∨ n = 8 ∨ n = 9 ∨ n = 10 ∨ n = 11 ∨ n = 12 ∨ n = 13 ∨ n = 14 ∨ n = 15 := by omega
  rcases hc with rfl | rfl | rfl | rfl | rfl | rfl | rfl | rfl | rfl | rfl | rfl | rfl | rfl | rfl | rfl | rfl <;> rfl
theorem low_nibble (n : Nat) (h : n < 256) : bits BinOp.and IntKind.u8 (n : Int) 15 = ((n % 16 : Nat) : Int) := by
  have := u8_and_nat n 15 h (by decide)
  rw [show (15 : Int) = ((15 : Nat) : Int) from rfl, this]
  have e := Nat.and_two_pow_sub_one_eq_mod n 4
  simpa using congrArg (Nat.cast (R := Int)) e
set_option maxHeartbeats 1000000 in
set_option maxRecDepth 100000 in
theorem quote_walk (a : ByteArray) (ha : a.size ≤ 10000000) (h0 : 0 < a.size) (w : World) :
    Calls Try.prog 22 #[.string a] w fun e w' => e = .returned (.string ⟨(a.data.toList.flatMap quoteB).toArray⟩) ∧ Below w.heap.size w w' := by
  have kb := fun W => print_bytes (P := Try.prog) 9 63 5 Try.underlying9 Try.underlying63 Try.underlying5 a W
  have hne : a.toList.isEmpty = false := by
    rw [ByteArray.toList_eq]; cases h : a.data.toList with
    | nil => have := data_length a; rw [h] at this; simp at this; omega
    | cons c l => rfl
  go_enter Try.func22, Try.ntmps22
  go_wp2_with fail
  have hsz : (Lib.bytesWorld (w.alloc (.cells #[.pointer none, .slice none 0 0] 65)) 5 a).heap.size = w.heap.size + 2 := by rw [Lib.bytesWorld_size]; simp
  have hbl : (Lib.bytesWorld (w.alloc (.cells #[.pointer none, .slice none 0 0] 65)) 5 a).heap[w.heap.size]? = some (.cells #[.pointer none, .slice none 0 0] 65 (0, 0)) := by
    rw [Lib.bytesWorld_at_old _ _ _ _ (by simp)]; exact blk_new _ _
  have hcs : ∀ j, j < a.size → (Lib.bytesWorld (w.alloc (.cells #[.pointer none, .slice none 0 0] 65)) 5 a).cell? ⟨w.heap.size + 1, j, none⟩ = some (.int .u8 ((a.data.toList.getD j 0).toNat : Int)) := by
    intro j hj
    have := Lib.bytesWorld_cell (w.alloc (.cells #[.pointer none, .slice none 0 0] 65)) 5 a j hj
    simpa using this
  have hb0 : Below w.heap.size w (Lib.bytesWorld (w.alloc (.cells #[.pointer none, .slice none 0 0] 65)) 5 a) := bytes_below ((Below.refl _ w).alloc (Nat.le_refl _) _) (by simp) 5 _
  revert hsz hbl hcs hb0
  generalize grownCap (w.alloc (.cells #[.pointer none, .slice none 0 0] 65)) a.size 0 5 = cap
  generalize Lib.bytesWorld (w.alloc (.cells #[.pointer none, .slice none 0 0] 65)) 5 a = W1
  intro hsz hbl hcs hb0
  have hB0 := BAt.start w W1 hbl hsz
  clear kb hne
  have HS := Aside0.mk hsz
  clear hsz hbl
  go_loopw [11] (fun v11 wr => ∃ k : Nat, k ≤ a.size ∧ v11 = .int .i64 k ∧ BAt (w.heap.size + 2) w.heap.size (Lib.byteCells ((a.data.toList.take k).flatMap quoteB)) wr ∧ KeptX (w.heap.size + 2) w.heap.size W1 wr) (fun v11 _ => a.size - (intOf v11).toNat)
  case atStart => exact ⟨0, by omega, rfl, hB0, KeptX.refl _ _ _⟩
  case round =>
    obtain ⟨k, hk, rfl, hB, hK⟩ := hrel
    by_cases hlt : k < a.size
    · have hl : k < a.data.toList.length := by simpa using hlt
      obtain ⟨c, hcd⟩ : ∃ c, c = a.data.toList[k] := ⟨_, rfl⟩
      have Hc := Aside0.mk hcd
      have hcell : wr.cell? ⟨w.heap.size + 1, k, none⟩ = some (.int .u8 (c.toNat : Int)) := by
        have e := hK.block (w.heap.size + 1) (by omega) (by omega)
        have : wr.cell? ⟨w.heap.size + 1, k, none⟩ = W1.cell? ⟨w.heap.size + 1, k, none⟩ := by simp [World.cell?, e]
        rw [this, hcs k hlt, List.getD_eq_getElem?_getD, List.getElem?_eq_getElem hl, hcd]; rfl
      clear hcd
      have hc1 : c.toNat < 256 := c.toNat_lt
      have hlen : (Lib.byteCells ((a.data.toList.take k).flatMap quoteB)).length ≤ 30000000 := by
        rw [bc_length]
        have := flat_len (a.data.toList.take k)
        rw [List.length_take] at this
        omega
      have hnext : (a.data.toList.take (k + 1)).flatMap quoteB = (a.data.toList.take k).flatMap quoteB ++ quoteB c := by
        rw [List.take_succ_eq_append_getElem hl, List.flatMap_append, Hc.out]; simp
      have HN := Aside0.mk hnext
      have HB := Aside0.mk hB
      have HK := Aside0.mk hK
      have HL := Aside0.mk hlen
      clear hnext hB hK hlen hB0 hcs
      by_cases hq : 32 < c.toNat ∧ c.toNat < 127 ∧ c.toNat ≠ 37
      · have hqq : quoteB c = [c] := if_pos hq
        have HQ := Aside0.mk hqq
        obtain ⟨q1, q2, q3⟩ := hq
        have d1 : decide ((32 : Int) < (c.toNat : Int)) = true := by simp; omega
        have d2 : decide ((c.toNat : Int) < 127) = true := by simp; omega
        have d3 : ((c.toNat : Int) != 37) = true := by simp; omega
        clear hqq q1 q2 q3
        go_wp2_with (first | (go_at_call 38; refine (Try.Builder_WriteByte_x _ _ _ _ _ HB.out (by have := HL.out; omega)).mono ?_; rintro e w1 ⟨rfl, h1, k1⟩; have H1 := Aside0.mk h1; have K1 := Aside0.mk k1; clear h1 k1))
        go_roundw
        case rel => exact ⟨k + 1, by omega, by go_num, by rw [HN.out, HQ.out, bc_append]; exact H1.out, HK.out.trans K1.out⟩
        case measure => simp [intOf]; omega
      · have hqq : quoteB c = [37, hexB (c.toNat / 16), hexB (c.toNat % 16)] := if_neg hq
        have HQ := Aside0.mk hqq
        have hcase : (¬ 32 < c.toNat) ∨ (32 < c.toNat ∧ ¬ c.toNat < 127) ∨ (32 < c.toNat ∧ c.toNat < 127 ∧ c.toNat = 37) := by omega
        clear hqq hq
        have e1 : (c.toNat : Int) / 16 = ((c.toNat / 16 : Nat) : Int) := by omega
        have e2 := low_nibble c.toNat hc1
        have i1 := hex_index (c.toNat / 16) (by omega)
        have i2 := hex_index (c.toNat % 16) (by omega)
        obtain ⟨n1, hn1⟩ : ∃ n1, n1 = c.toNat / 16 := ⟨_, rfl⟩
        obtain ⟨n2, hn2⟩ : ∃ n2, n2 = c.toNat % 16 := ⟨_, rfl⟩
        rw [← hn1] at e1 i1 HQ
        rw [← hn2] at e2 i2 HQ
        clear hn1 hn2
        rcases hcase with q1 | ⟨q1, q2⟩ | ⟨q1, q2, q3⟩
        · have d1 : decide ((32 : Int) < (c.toNat : Int)) = false := by simp; omega
          clear q1
          go_wp2_with fail
          go_still_tail 6, (by kernel_rfl)
          change wpList _ _ _ _ _ wr.drew
          have HBd := Aside0.mk (BAt.drew HB.out)
          have HKd := Aside0.mk HK.out.drew
          clear HB HK
          revert HBd HKd
          generalize wr.drew = w2
          intro HBd HKd
          have hBsz := HBd.out.2.1
          go_wp2_with (first | (go_at_call 42; refine (Try.Builder_Write_x _ _ _ w2.heap.size 3 3 [.int .u8 37, .int .u8 ((hexB n1).toNat : Int), .int .u8 ((hexB n2).toNat : Int)] _ (BAt.alloc HBd.out _) rfl (three_cells w2 _ _ _ 5 rfl) (by omega) (by simp [Value.oneCell']) (by have := HL.out; omega)).mono ?_; rintro e w3 ⟨rfl, h1, k1⟩; have H1 := Aside0.mk h1; have K1 := Aside0.mk k1; clear h1 k1))
          go_roundw
          case rel => exact ⟨k + 1, by omega, by go_num, by rw [HN.out, HQ.out, bc_append]; exact H1.out, (KeptX.alloc HKd.out hBsz _).trans K1.out⟩
          case measure => simp [intOf]; omega
        · have d1 : decide ((32 : Int) < (c.toNat : Int)) = true := by simp; omega
          have d2 : decide ((c.toNat : Int) < 127) = false := by simp; omega
          clear q1 q2
          go_wp2_with fail
          go_still_tail 6, (by kernel_rfl)
          change wpList _ _ _ _ _ wr.drew
          have HBd := Aside0.mk (BAt.drew HB.out)
          have HKd := Aside0.mk HK.out.drew
          clear HB HK
          revert HBd HKd
          generalize wr.drew = w2
          intro HBd HKd
          have hBsz := HBd.out.2.1
          go_wp2_with (first | (go_at_call 42; refine (Try.Builder_Write_x _ _ _ w2.heap.size 3 3 [.int .u8 37, .int .u8 ((hexB n1).toNat : Int), .int .u8 ((hexB n2).toNat : Int)] _ (BAt.alloc HBd.out _) rfl (three_cells w2 _ _ _ 5 rfl) (by omega) (by simp [Value.oneCell']) (by have := HL.out; omega)).mono ?_; rintro e w3 ⟨rfl, h1, k1⟩; have H1 := Aside0.mk h1; have K1 := Aside0.mk k1; clear h1 k1))
          go_roundw
          case rel => exact ⟨k + 1, by omega, by go_num, by rw [HN.out, HQ.out, bc_append]; exact H1.out, (KeptX.alloc HKd.out hBsz _).trans K1.out⟩
          case measure => simp [intOf]; omega
        · have d1 : decide ((32 : Int) < (c.toNat : Int)) = true := by simp; omega
          have d2 : decide ((c.toNat : Int) < 127) = true := by simp; omega
          have d3 : ((c.toNat : Int) != 37) = false := by simp; omega
          clear q1 q2 q3
          go_wp2_with fail
          go_still_tail 6, (by kernel_rfl)
          change wpList _ _ _ _ _ wr.drew
          have HBd := Aside0.mk (BAt.drew HB.out)
          have HKd := Aside0.mk HK.out.drew
          clear HB HK
          revert HBd HKd
          generalize wr.drew = w2
          intro HBd HKd
          have hBsz := HBd.out.2.1
          go_wp2_with (first | (go_at_call 42; refine (Try.Builder_Write_x _ _ _ w2.heap.size 3 3 [.int .u8 37, .int .u8 ((hexB n1).toNat : Int), .int .u8 ((hexB n2).toNat : Int)] _ (BAt.alloc HBd.out _) rfl (three_cells w2 _ _ _ 5 rfl) (by omega) (by simp [Value.oneCell']) (by have := HL.out; omega)).mono ?_; rintro e w3 ⟨rfl, h1, k1⟩; have H1 := Aside0.mk h1; have K1 := Aside0.mk k1; clear h1 k1))
          go_roundw
          case rel => exact ⟨k + 1, by omega, by go_num, by rw [HN.out, HQ.out, bc_append]; exact H1.out, (KeptX.alloc HKd.out hBsz _).trans K1.out⟩
          case measure => simp [intOf]; omega
    · obtain rfl : k = a.size := by omega
      have hfull : a.data.toList.take a.size = a.data.toList := List.take_of_length_le (by simp)
      rw [hfull] at hB
      have HB := Aside0.mk hB
      have HK := Aside0.mk hK
      clear hB hK hfull hB0 hcs
      go_wp2_with (first | (go_at_call 40; refine (Try.Builder_String_any_k _ _ _ _ (BAt.isF HB.out) (by have := HB.out.1; have := HB.out.2.1; omega)).mono ?_; rintro e w4 ⟨rfl, _, hb4, _⟩; have H4 := Aside0.mk hb4; clear hb4))
      go_ret
      exact ⟨rfl, (hb0.trans (KeptX.below HK.out (by omega))).trans H4.out⟩
theorem quote_empty (w : World) : Calls Try.prog 22 #[.string ⟨#[]⟩] w fun e w' => e = .returned (.string ⟨#[37]⟩) ∧ Below w.heap.size w w' := by
  go_enter Try.func22, Try.ntmps22
  go_wp2
  go_ret
  exact ⟨rfl, Below.refl _ _⟩

end Go.Proofs.Ytdkaokjnfkfngaa.Given
