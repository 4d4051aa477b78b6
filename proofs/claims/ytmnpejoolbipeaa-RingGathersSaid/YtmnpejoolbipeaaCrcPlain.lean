/- Plain arithmetic of the sums: bit steps over natural numbers, the four-bit table, the fold over bytes. No program in sight. -/
namespace Go.Proofs.Ytmnpejoolbipeaa.CrcPlain
def poly : Nat := 2197175160
def bit1 (x : Nat) : Nat := if x % 2 = 1 then (x / 2) ^^^ poly else x / 2
def bitN : Nat → Nat → Nat
  | 0, x => x
  | n + 1, x => bit1 (bitN n x)
theorem xor_div2 (a b : Nat) : (a ^^^ b) / 2 = a / 2 ^^^ b / 2 := by
  have := Nat.shiftRight_xor_distrib (a := a) (b := b) (i := 1)
  simpa [Nat.shiftRight_eq_div_pow] using this
theorem xor_mod2 (a b : Nat) : (a ^^^ b) % 2 = (a % 2 + b % 2) % 2 := by
  have h := Nat.testBit_xor a b 0
  simp only [Nat.testBit_zero] at h
  rcases Nat.mod_two_eq_zero_or_one a with h1 | h1 <;> rcases Nat.mod_two_eq_zero_or_one b with h2 | h2 <;> rcases Nat.mod_two_eq_zero_or_one (a ^^^ b) with h3 | h3 <;> simp_all
theorem bit1_xor (a b : Nat) : bit1 (a ^^^ b) = bit1 a ^^^ bit1 b := by
  unfold bit1
  rw [xor_mod2, xor_div2]
  rcases Nat.mod_two_eq_zero_or_one a with h1 | h1 <;> rcases Nat.mod_two_eq_zero_or_one b with h2 | h2 <;> simp only [h1, h2] <;> simp
  · rw [Nat.xor_assoc]
  · rw [Nat.xor_assoc, Nat.xor_assoc, Nat.xor_comm poly]
  · have : a / 2 ^^^ poly ^^^ (b / 2 ^^^ poly) = a / 2 ^^^ b / 2 ^^^ (poly ^^^ poly) := by
      rw [Nat.xor_assoc, Nat.xor_comm poly (b / 2 ^^^ poly), Nat.xor_assoc, Nat.xor_assoc]
    rw [this, Nat.xor_self, Nat.xor_zero]
theorem bitN_xor (n a b : Nat) : bitN n (a ^^^ b) = bitN n a ^^^ bitN n b := by
  induction n with
  | zero => rfl
  | succ n ih => simp only [bitN, ih, bit1_xor]
theorem bit1_split (x : Nat) : bit1 x = x / 2 ^^^ bit1 (x % 2) := by
  unfold bit1
  rcases Nat.mod_two_eq_zero_or_one x with h | h <;> simp [h]
theorem bit1_lt {x : Nat} (h : x < 4294967296) : bit1 x < 4294967296 := by
  unfold bit1
  have h32 : (4294967296 : Nat) = 2 ^ 32 := rfl
  split
  · rw [h32]; exact Nat.xor_lt_two_pow (by omega) (by decide)
  · omega
theorem bitN_lt (n : Nat) {x : Nat} (h : x < 4294967296) : bitN n x < 4294967296 := by
  induction n with
  | zero => exact h
  | succ n ih => exact bit1_lt ih
theorem bit1_inj {a b : Nat} (ha : a < 4294967296) (hb : b < 4294967296) (h : bit1 a = bit1 b) : a = b := by
  have hx : bit1 (a ^^^ b) = 0 := by rw [bit1_xor, h, Nat.xor_self]
  have hl : a ^^^ b < 4294967296 := by
    have h32 : (4294967296 : Nat) = 2 ^ 32 := rfl
    rw [h32] at *; exact Nat.xor_lt_two_pow ha hb
  generalize hc : a ^^^ b = c at hx hl
  have hc0 : c = 0 := by
    unfold bit1 at hx
    split at hx
    · have h2 : c / 2 = poly := by
        have := congrArg (· ^^^ poly) hx
        simp only [Nat.xor_assoc, Nat.xor_self, Nat.xor_zero, Nat.zero_xor] at this
        exact this
      unfold poly at h2; omega
    · omega
  have : a ^^^ b ^^^ b = c ^^^ b := by rw [hc]
  rw [Nat.xor_assoc, Nat.xor_self, Nat.xor_zero, hc0, Nat.zero_xor] at this
  exact this
theorem bitN_inj (n : Nat) {a b : Nat} (ha : a < 4294967296) (hb : b < 4294967296) (h : bitN n a = bitN n b) : a = b := by
  induction n with
  | zero => exact h
  | succ n ih => exact ih (bit1_inj (bitN_lt n ha) (bitN_lt n hb) h)
theorem bitN_add (m n x : Nat) : bitN (m + n) x = bitN m (bitN n x) := by
  induction m with
  | zero => simp [bitN]
  | succ m ih => rw [show m + 1 + n = (m + n) + 1 by omega]; simp only [bitN, ih]
/-- Four bit steps: the rest, xored with the table's entry. -/
theorem nib (x : Nat) : bitN 4 x = x / 16 ^^^ bitN 4 (x % 16) := by
  have e : ∀ y : Nat, bitN 4 y = y / 16 ^^^ (bit1 (y / 8 % 2) ^^^ (bit1 (bit1 (y / 4 % 2)) ^^^ (bit1 (bit1 (bit1 (y / 2 % 2))) ^^^ bit1 (bit1 (bit1 (bit1 (y % 2))))))) := by
    intro y
    have e1 := bit1_split y
    have e2 : bit1 (bit1 y) = y / 4 ^^^ (bit1 (y / 2 % 2) ^^^ bit1 (bit1 (y % 2))) := by
      rw [e1, bit1_xor, bit1_split (y / 2), Nat.div_div_eq_div_mul, Nat.xor_assoc]
    have e3 : bit1 (bit1 (bit1 y)) = y / 8 ^^^ (bit1 (y / 4 % 2) ^^^ (bit1 (bit1 (y / 2 % 2)) ^^^ bit1 (bit1 (bit1 (y % 2))))) := by
      rw [e2, bit1_xor, bit1_split (y / 4), Nat.div_div_eq_div_mul, bit1_xor, Nat.xor_assoc]
    simp only [bitN]
    rw [e3, bit1_xor, bit1_split (y / 8), Nat.div_div_eq_div_mul, bit1_xor, bit1_xor, Nat.xor_assoc]
  rw [e x, e (x % 16)]
  rw [show x % 16 / 16 = 0 by omega, show x % 16 / 8 % 2 = x / 8 % 2 by omega, show x % 16 / 4 % 2 = x / 4 % 2 by omega, show x % 16 / 2 % 2 = x / 2 % 2 by omega, show x % 16 % 2 = x % 2 by omega, Nat.zero_xor]
/-- One byte more. -/
def step (x : Nat) (c : UInt8) : Nat := bitN 8 (x ^^^ c.toNat)
def run (x : Nat) (l : List UInt8) : Nat := l.foldl step x
def neg (x : Nat) : Nat := x ^^^ 4294967295
def more (sum : Nat) (l : List UInt8) : Nat := neg (run (neg sum) l)
theorem xor_lt32 {a b : Nat} (ha : a < 4294967296) (hb : b < 4294967296) : a ^^^ b < 4294967296 := by
  have h32 : (4294967296 : Nat) = 2 ^ 32 := rfl
  rw [h32] at *; exact Nat.xor_lt_two_pow ha hb
theorem byte_lt (c : UInt8) : c.toNat < 4294967296 := by have := c.toNat_lt; omega
theorem step_lt {x : Nat} (h : x < 4294967296) (c : UInt8) : step x c < 4294967296 := bitN_lt 8 (xor_lt32 h (byte_lt c))
theorem run_lt {x : Nat} (h : x < 4294967296) (l : List UInt8) : run x l < 4294967296 := by
  induction l generalizing x with
  | nil => exact h
  | cons c l ih => exact ih (step_lt h c)
theorem neg_lt {x : Nat} (h : x < 4294967296) : neg x < 4294967296 := xor_lt32 h (by decide)
theorem neg_neg (x : Nat) : neg (neg x) = x := by unfold neg; rw [Nat.xor_assoc, Nat.xor_self, Nat.xor_zero]
theorem more_lt {s : Nat} (h : s < 4294967296) (l : List UInt8) : more s l < 4294967296 := neg_lt (run_lt (neg_lt h) l)
theorem run_append (x : Nat) (a b : List UInt8) : run x (a ++ b) = run (run x a) b := List.foldl_append
theorem more_append (s : Nat) (a b : List UInt8) : more s (a ++ b) = more (more s a) b := by
  unfold more; rw [neg_neg, run_append]
theorem more_nil (s : Nat) : more s [] = s := neg_neg s
/-- The two table steps of one byte. -/
theorem two_nibs (y : Nat) : bitN 8 y = (y / 16 ^^^ bitN 4 (y % 16)) / 16 ^^^ bitN 4 ((y / 16 ^^^ bitN 4 (y % 16)) % 16) := by
  rw [show (8 : Nat) = 4 + 4 from rfl, bitN_add, nib (bitN 4 y), nib y]
end Go.Proofs.Ytmnpejoolbipeaa.CrcPlain
