/- Plain: the text that key.Quote makes of a name, and the name that key.Unquote makes of a text. No program in sight. -/
import Derived.Lib.Bytealg
namespace Go.Proofs.Ytmnpejoolbipeaa.KeyPlain
open Go.Proofs
def hexB (n : Nat) : UInt8 := if n < 10 then UInt8.ofNat (48 + n) else UInt8.ofNat (55 + n)
def quoteB (c : UInt8) : List UInt8 := if 32 < c.toNat ∧ c.toNat < 127 ∧ c.toNat ≠ 37 then [c] else [37, hexB (c.toNat / 16), hexB (c.toNat % 16)]
def quoteL (l : List UInt8) : List UInt8 := if l = [] then [37] else l.flatMap quoteB
theorem quoteB_len (c : UInt8) : (quoteB c).length ≤ 3 := by unfold quoteB; split <;> simp
theorem flat_len (l : List UInt8) : (l.flatMap quoteB).length ≤ 3 * l.length := by
  induction l with
  | nil => simp
  | cons c l ih => have := quoteB_len c; simp only [List.flatMap_cons, List.length_append, List.length_cons]; omega
def digitsL : List UInt8 := [48, 49, 50, 51, 52, 53, 54, 55, 56, 57, 65, 66, 67, 68, 69, 70]
def hv (c : UInt8) : Int := Lib.indexByte digitsL c
def unqA : List UInt8 → List UInt8 → Option (List UInt8)
  | [], acc => some acc
  | [c], acc => if c = 37 then none else some (acc ++ [c])
  | [c, d], acc => if c = 37 then none else unqA [d] (acc ++ [c])
  | c :: x :: y :: r, acc => if c = 37 then (if hv x < 0 ∨ hv y < 0 then none else unqA r (acc ++ [UInt8.ofNat (16 * (hv x).toNat + (hv y).toNat)])) else unqA (x :: y :: r) (acc ++ [c])
theorem unqA_ne (c : UInt8) (l acc : List UInt8) (h : c ≠ 37) : unqA (c :: l) acc = unqA l (acc ++ [c]) := by
  match l with
  | [] => simp [unqA, h]
  | [d] => simp [unqA, h]
  | x :: y :: r => simp [unqA, h]
theorem unqA_short (l acc : List UInt8) (h : l.length < 2) : unqA (37 :: l) acc = none := by
  match l, h with
  | [], _ => simp [unqA]
  | [d], _ => simp [unqA]
theorem hv_bounds (c : UInt8) : -1 ≤ hv c ∧ hv c < 16 := by
  have : ∀ n : Fin 256, -1 ≤ hv (UInt8.ofNat n.val) ∧ hv (UInt8.ofNat n.val) < 16 := by decide +kernel
  have h := this ⟨c.toNat, c.toNat_lt⟩
  simpa using h
theorem byte_of (a b : Nat) (ha : a < 16) (hb : b < 16) : (a : Int) * 16 + (b : Int) = ((UInt8.ofNat (16 * a + b)).toNat : Int) := by
  rw [UInt8.toNat_ofNat']
  omega
def unqF (s : List UInt8) : List UInt8 × Int := if s = [37] then ([], 0) else match unqA s [] with
  | none => ([], 5)
  | some out => if quoteL out = s then (out, 0) else ([], 5)
end Go.Proofs.Ytmnpejoolbipeaa.KeyPlain
