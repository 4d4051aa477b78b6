/- The sum of three texts of one length, xored byte by byte, is their sums, xored, at texts of at most 1000 bytes. -/
import Derived.Test.YtkafepjecpfoeaaPCrcx2
import Derived.Test.YtkafepjecpfoeaaPureCrcBase
namespace Go.Proofs.Ytkafepjecpfoeaa.Pure
set_option linter.unusedVariables false
set_option linter.unusedSimpArgs false
open Go.RowKit Go.Proofs.Ytkafepjecpfoeaa.PCrc Go.Proofs.Ytkafepjecpfoeaa.Given Go.Proofs.Ytkafepjecpfoeaa.CrcPlain Go.Proofs.YtkafepjecpfoeaaW.PrintWords Go.Proofs.YtkafepjecpfoeaaW.PrintLast
def x3 : List UInt8 → List UInt8 → List UInt8 → List UInt8
  | a :: xs, b :: ys, c :: zs => (a ^^^ b ^^^ c) :: x3 xs ys zs
  | _, _, _ => []
theorem xor6 (a b c d e f : Nat) : (a ^^^ b ^^^ c) ^^^ (d ^^^ e ^^^ f) = (a ^^^ d) ^^^ (b ^^^ e) ^^^ (c ^^^ f) := by
  apply Nat.eq_of_testBit_eq
  intro i
  simp only [Nat.testBit_xor]
  cases a.testBit i <;> cases b.testBit i <;> cases c.testBit i <;> cases d.testBit i <;> cases e.testBit i <;> cases f.testBit i <;> rfl
theorem run_x3 : ∀ (xs ys zs : List UInt8) (x y z : Nat), xs.length = ys.length → xs.length = zs.length → run (x ^^^ y ^^^ z) (x3 xs ys zs) = run x xs ^^^ run y ys ^^^ run z zs
  | [], [], [], x, y, z, _, _ => rfl
  | a :: xs, b :: ys, c :: zs, x, y, z, h1, h2 => by
    have := run_x3 xs ys zs (CrcPlain.step x a) (CrcPlain.step y b) (CrcPlain.step z c) (by simpa using h1) (by simpa using h2)
    have e : CrcPlain.step (x ^^^ y ^^^ z) (a ^^^ b ^^^ c) = CrcPlain.step x a ^^^ CrcPlain.step y b ^^^ CrcPlain.step z c := by
      unfold CrcPlain.step
      rw [UInt8.toNat_xor, UInt8.toNat_xor, xor6, bitN_xor, bitN_xor]
    show run (CrcPlain.step (x ^^^ y ^^^ z) (a ^^^ b ^^^ c)) (x3 xs ys zs) = _
    rw [e, this]; rfl
theorem more_x3 (xs ys zs : List UInt8) (h1 : xs.length = ys.length) (h2 : xs.length = zs.length) : more 0 (x3 xs ys zs) = more 0 xs ^^^ more 0 ys ^^^ more 0 zs := by
  unfold more
  have e : neg 0 = neg 0 ^^^ neg 0 ^^^ neg 0 := by decide
  have := run_x3 xs ys zs (neg 0) (neg 0) (neg 0) h1 h2
  rw [← e] at this
  rw [this]
  unfold neg
  apply Nat.eq_of_testBit_eq
  intro i
  simp only [Nat.testBit_xor]
  cases (run (0 ^^^ 4294967295) xs).testBit i <;> cases (run (0 ^^^ 4294967295) ys).testBit i <;> cases (run (0 ^^^ 4294967295) zs).testBit i <;> cases (4294967295 : Nat).testBit i <;> rfl
theorem x3_length : ∀ (xs ys zs : List UInt8), xs.length = ys.length → xs.length = zs.length → (x3 xs ys zs).length = xs.length
  | [], [], [], _, _ => rfl
  | a :: xs, b :: ys, c :: zs, h1, h2 => by simp only [x3, List.length_cons]; rw [x3_length xs ys zs (by simpa using h1) (by simpa using h2)]
theorem x3_get : ∀ (xs ys zs : List UInt8) (i : Nat) (h1 : xs.length = ys.length) (h2 : xs.length = zs.length) (h : i < xs.length), (x3 xs ys zs)[i]? = some (xs[i] ^^^ ys[i] ^^^ zs[i])
  | a :: xs, b :: ys, c :: zs, 0, _, _, _ => rfl
  | a :: xs, b :: ys, c :: zs, i + 1, h1, h2, h => by simpa [x3] using x3_get xs ys zs i (by simpa using h1) (by simpa using h2) (by simpa using h)
def numsOf (l : List UInt8) : List Int := l.map fun c => (c.toNat : Int)
theorem strOfNums_size (l : List UInt8) : (strOfNums (numsOf l)).data.toList = l := by
  have : (fun n : Int => UInt8.ofNat n.toNat) ∘ (fun c : UInt8 => (c.toNat : Int)) = id := by
    funext c; simp
  simp [strOfNums, numsOf, this]
theorem even_loop (a0 a1 a2 : ByteArray) (h01 : a0.size = a1.size) (h02 : a0.size = a2.size) (hs : a0.size ≤ 1000) (d : Nat) : ∀ (k i : Nat), i + d = a0.size →
    sheetpilelaw06_CrcEven.l0 (k + d + 1) a0 a1 a2 (numsOf ((x3 a0.data.toList a1.data.toList a2.data.toList).take i)) i = some true := by
  have l1 : a0.data.toList.length = a1.data.toList.length := by rw [data_length, data_length, h01]
  have l2 : a0.data.toList.length = a2.data.toList.length := by rw [data_length, data_length, h02]
  have l3 := x3_length _ _ _ l1 l2
  induction d with
  | zero =>
    intro k i hi
    simp only [sheetpilelaw06_CrcEven.l0]
    rw [if_neg (by omega), List.take_of_length_le (by rw [l3, data_length]; omega)]
    have hx := strOfNums_size (x3 a0.data.toList a1.data.toList a2.data.toList)
    have hsz : (strOfNums (numsOf (x3 a0.data.toList a1.data.toList a2.data.toList))).size ≤ 281474976710656 := by rw [← data_length, hx, l3, data_length]; omega
    rw [crc_Sum_f _ hsz, crc_Sum_f a0 (by omega), crc_Sum_f a1 (by omega), crc_Sum_f a2 (by omega), live06, hx, more_x3 _ _ _ l1 l2]
    simp only [Option.bind_some]
    have e1 := u32_xor_nat (more 0 a0.data.toList) (more 0 a1.data.toList) (more_lt (by decide) _) (more_lt (by decide) _)
    have e2 := u32_xor_nat (more 0 a0.data.toList ^^^ more 0 a1.data.toList) (more 0 a2.data.toList) (xor_lt32 (more_lt (by decide) _) (more_lt (by decide) _)) (more_lt (by decide) _)
    rw [e1, e2, if_pos rfl]
  | succ d ih =>
    intro k i hi
    have hl : i < a0.data.toList.length := by rw [data_length]; omega
    rw [show k + (d + 1) + 1 = (k + d + 1) + 1 by omega]
    simp only [sheetpilelaw06_CrcEven.l0]
    have hlen : (numsOf ((x3 a0.data.toList a1.data.toList a2.data.toList).take i)).length ≤ i := by unfold numsOf; simp [List.length_take]; omega
    rw [if_pos (by omega), if_pos (by omega), if_pos (by omega), if_pos (by omega), if_pos (by omega)]
    rw [bt_nat a0 i hl, bt_nat a1 i (by omega), bt_nat a2 i (by omega), wrap_succ i a0.size (by omega) (by omega)]
    have e1 := u8_xor_nat (a0.data.toList[i].toNat) (a1.data.toList[i].toNat) (UInt8.toNat_lt _) (UInt8.toNat_lt _)
    have b1 : a0.data.toList[i].toNat ^^^ a1.data.toList[i].toNat < 256 := by
      rw [show (256 : Nat) = 2 ^ 8 from rfl]; exact Nat.xor_lt_two_pow (UInt8.toNat_lt _) (UInt8.toNat_lt _)
    have e2 := u8_xor_nat (a0.data.toList[i].toNat ^^^ a1.data.toList[i].toNat) (a2.data.toList[i].toNat) b1 (UInt8.toNat_lt _)
    rw [e1, e2]
    have := ih k (i + 1) (by omega)
    have hg := x3_get _ _ _ i l1 l2 hl
    rw [List.take_add_one, hg] at this
    simp only [Option.toList_some, numsOf, List.map_append, List.map_cons, List.map_nil, UInt8.toNat_xor] at this
    exact this
theorem CrcEven : sheetpilelaw06_CrcEven.Pure := by
  intro a0 a1 a2 h0 h1 h2
  refine ⟨a0.size + 2, ?_⟩
  unfold sheetpilelaw06_CrcEven.f
  by_cases hs : (a0.size : Int) > 1000
  · rw [if_pos hs]; simp only [sheetpilelaw06_CrcEven.j0]; rw [if_pos trivial, live06]; rfl
  · rw [if_neg hs]
    by_cases h01 : (a0.size : Int) = (a1.size : Int)
    · rw [if_pos h01]
      simp only [sheetpilelaw06_CrcEven.j0]
      by_cases h02 : (a0.size : Int) = (a2.size : Int)
      · rw [if_neg (by simp [h02])]
        have := even_loop a0 a1 a2 (by omega) (by omega) (by omega) a0.size 0 0 (by omega)
        rw [show 0 + a0.size + 1 = a0.size + 1 by omega] at this
        exact this
      · rw [if_pos (by simpa using h02), live06]; rfl
    · rw [if_neg h01]
      simp only [sheetpilelaw06_CrcEven.j0]
      rw [if_pos trivial, live06]; rfl
end Go.Proofs.Ytkafepjecpfoeaa.Pure
