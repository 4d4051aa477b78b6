/- Byte strings as lists of bytes: how the printed functions' words on strings read on lists. -/
import Derived.Test.YtmnpejoolbipeaaWWords
import Derived.Lib.Strings
namespace Go.Proofs.Ytmnpejoolbipeaa.Bs
set_option linter.unusedVariables false
set_option linter.unusedSimpArgs false
open Go.RowKit Go.Proofs.YtmnpejoolbipeaaW.PrintWords
/-- The string of these bytes. -/
def bs (l : List UInt8) : ByteArray := ⟨l.toArray⟩
theorem bs_data (l : List UInt8) : (bs l).data.toList = l := by simp [bs]
theorem bs_of (a : ByteArray) : a = bs a.data.toList := by cases a; simp [bs]
theorem ex_bs (a : ByteArray) : ∃ l, a = bs l := ⟨_, bs_of a⟩
theorem mk_bs (a : Array UInt8) : (⟨a⟩ : ByteArray) = bs a.toList := by simp [bs]
theorem bs_toList (l : List UInt8) : (bs l).toList = l := by rw [ByteArray.toList_eq, bs_data]
theorem bs_size (l : List UInt8) : (bs l).size = l.length := by rw [← data_length, bs_data]
theorem bs_append (l m : List UInt8) : bs l ++ bs m = bs (l ++ m) := by
  rw [bs_of (bs l ++ bs m)]
  simp [bs_data]
theorem bs_extract (l : List UInt8) (i j : Nat) : (bs l).extract i j = bs ((l.drop i).take (j - i)) := by
  rw [bs_of ((bs l).extract i j), Lib.extract_data, bs_data]
theorem bs_extract_end (l : List UInt8) (i : Nat) : (bs l).extract i l.length = bs (l.drop i) := by
  rw [bs_extract, List.take_of_length_le (by simp)]
theorem bs_extract_zero (l : List UInt8) (i : Nat) : (bs l).extract 0 i = bs (l.take i) := by
  rw [bs_extract, List.drop_zero, Nat.sub_zero]
theorem bs_inj {l m : List UInt8} : bs l = bs m ↔ l = m := ⟨fun h => by rw [← bs_data l, h, bs_data], fun h => by rw [h]⟩
theorem bt_bs (l : List UInt8) (i : Nat) (h : i < l.length) : bt (bs l) (i : Int) = ((l[i].toNat : Nat) : Int) := by
  have h' : i < (bs l).size := by rw [bs_size]; exact h
  have e : ((bs l)[i]'h') = l[i] := by simp [bs]; rfl
  unfold bt
  simp only [Int.toNat_natCast, h', dite_true, e]
  rfl
/-- A list of bytes as the numbers that it bears. -/
def numsOf (l : List UInt8) : List Int := l.map fun c => (c.toNat : Int)
theorem strOfNums_numsOf (l : List UInt8) : strOfNums (numsOf l) = bs l := by
  have : (fun n : Int => UInt8.ofNat n.toNat) ∘ (fun c : UInt8 => (c.toNat : Int)) = id := by funext c; simp
  simp [strOfNums, numsOf, this, bs]
theorem numsOf_length (l : List UInt8) : (numsOf l).length = l.length := by simp [numsOf]
theorem wrap_nat (n : Nat) (h : n < 9223372036854775808) : wrap64 (n : Int) = (n : Int) := by unfold wrap64; omega
theorem wrap_succ (i n : Nat) (h : i < n) (hn : n ≤ 281474976710656) : wrap64 ((i : Int) + 1) = ((i + 1 : Nat) : Int) := by
  unfold wrap64; omega
theorem wrap_id {a : Int} (h1 : -9223372036854775808 ≤ a) (h2 : a < 9223372036854775808) : wrap64 a = a := by unfold wrap64; omega
theorem i64_wf {a : Int} (h : (Lit.int .i64 a).wf = true) : -9223372036854775808 ≤ a ∧ a < 9223372036854775808 := by
  have h1 : IntKind.i64.min = -9223372036854775808 := by decide
  have h2 : IntKind.i64.max = 9223372036854775807 := by decide
  simp only [Lit.wf, h1, h2, Bool.and_eq_true, decide_eq_true_eq] at h
  omega
theorem u32_wf {a : Int} (h : (Lit.int .u32 a).wf = true) : ∃ n : Nat, a = n ∧ n < 4294967296 := by
  have h1 : IntKind.u32.min = 0 := by decide
  have h2 : IntKind.u32.max = 4294967295 := by decide
  simp only [Lit.wf, h1, h2, Bool.and_eq_true, decide_eq_true_eq] at h
  exact ⟨a.toNat, by omega, by omega⟩
end Go.Proofs.Ytmnpejoolbipeaa.Bs
