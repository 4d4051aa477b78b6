/- Plain arithmetic of the sums: a change within four bytes that follow one another changes the sum. No program in sight. -/
import Derived.Test.YtggngbbkachpaaaCrcPlain
set_option linter.unusedSimpArgs false
set_option linter.unusedVariables false
namespace Go.Proofs.Ytggngbbkachpaaa.CrcPlain
/-- The bytes of by, xored onto the bytes from place a on, k of them. -/
def turnB (a b : Nat) : Nat → List UInt8 → List UInt8
  | 0, l => l
  | k + 1, l => (turnB a b k l).set (a + k) ((turnB a b k l)[a + k]?.getD 0 ^^^ UInt8.ofNat (b / 256 ^ k % 256))
theorem turnB_length (a b k : Nat) (l : List UInt8) : (turnB a b k l).length = l.length := by
  induction k with
  | zero => rfl
  | succ k ih => simp [turnB, ih]
theorem turnB_four (a b : Nat) (p q : List UInt8) (c0 c1 c2 c3 : UInt8) (hp : p.length = a) :
    turnB a b 4 (p ++ c0 :: c1 :: c2 :: c3 :: q) = p ++ (c0 ^^^ UInt8.ofNat (b % 256)) :: (c1 ^^^ UInt8.ofNat (b / 256 % 256)) :: (c2 ^^^ UInt8.ofNat (b / 65536 % 256)) :: (c3 ^^^ UInt8.ofNat (b / 16777216 % 256)) :: q := by
  subst hp
  have e2 : (256 : Nat) ^ 2 = 65536 := by decide
  have e3 : (256 : Nat) ^ 3 = 16777216 := by decide
  have e1 : (256 : Nat) ^ 1 = 256 := by decide
  have e0 : (256 : Nat) ^ 0 = 1 := by decide
  simp only [turnB, e0, e1, e2, e3, Nat.div_one, Nat.add_zero]
  simp [List.set_append, List.getElem?_append]
/-- The rest of a step, where the number is xored. -/
theorem step_xor (x y : Nat) (c d : UInt8) : step (x ^^^ y) (c ^^^ d) = step x c ^^^ step y d := by
  unfold step
  rw [UInt8.toNat_xor, ← bitN_xor]
  congr 1
  apply Nat.eq_of_testBit_eq
  intro i
  simp only [Nat.testBit_xor]
  cases x.testBit i <;> cases y.testBit i <;> cases c.toNat.testBit i <;> cases d.toNat.testBit i <;> rfl
theorem run_xor_zero (x y : Nat) : ∀ l : List UInt8, run (x ^^^ y) l = run x l ^^^ run y (List.replicate l.length 0)
  | [] => rfl
  | c :: l => by
    simp only [run, List.foldl_cons, List.length_cons, List.replicate_succ]
    have := step_xor x y c 0
    rw [UInt8.xor_zero] at this
    rw [this]
    exact run_xor_zero _ _ l
theorem run_zero : ∀ n, run 0 (List.replicate n 0) = 0
  | 0 => rfl
  | n + 1 => by
    simp only [run, List.replicate_succ, List.foldl_cons]
    have : step 0 0 = 0 := by decide
    rw [this]; exact run_zero n
/-- Four bytes from 0 on are a shift: nothing of 32 bits is lost. -/
theorem split4 (b : Nat) (hb : b < 4294967296) : run 0 [UInt8.ofNat (b % 256), UInt8.ofNat (b / 256 % 256), UInt8.ofNat (b / 65536 % 256), UInt8.ofNat (b / 16777216 % 256)] = bitN 32 b := by
  have key : ∀ (k x c : Nat), c < 256 → x < 2 ^ (32 - 8 * (k + 1)) → k ≤ 3 → bitN 8 (x * 256 ^ 1 + c) = x ^^^ bitN 8 c := by
    intro k x c hc hx hk
    have e1 : ∀ y z : Nat, z < 256 → y * 256 + z = (y * 256) ^^^ z := by
      intro y z hz
      have := Nat.two_pow_add_eq_or_of_lt (i := 8) (b := z) hz y
      apply Nat.eq_of_testBit_eq
      intro i
      have h1 : (y * 256 + z).testBit i = (2 ^ 8 * y ||| z).testBit i := by rw [← this]; congr 1; rw [Nat.mul_comm]
      rw [h1, Nat.testBit_or, Nat.testBit_xor]
      have h2 : (2 ^ 8 * y).testBit i = (y * 256).testBit i := by rw [Nat.mul_comm]
      rw [h2]
      by_cases hi : i < 8
      · have : (y * 256).testBit i = false := by
          rw [show y * 256 = 2 ^ 8 * y by rw [Nat.mul_comm], Nat.testBit_two_pow_mul]; simp; omega
        rw [this]; cases z.testBit i <;> rfl
      · have : z.testBit i = false := Nat.testBit_lt_two_pow (Nat.lt_of_lt_of_le hz (Nat.pow_le_pow_right (n := 2) (by decide) (show 8 ≤ i by omega)))
        rw [this]; cases (y * 256).testBit i <;> rfl
    rw [Nat.pow_one, e1 x c hc, bitN_xor]
    congr 1
    have half : ∀ (m n : Nat), bitN m (n * 2 ^ m) = n := by
      intro m
      induction m with
      | zero => intro n; simp [bitN]
      | succ m ih =>
        intro n
        rw [bitN_add m 1]
        have : bitN 1 (n * 2 ^ (m + 1)) = n * 2 ^ m := by
          show bit1 (n * 2 ^ (m + 1)) = _
          unfold bit1
          rw [Nat.pow_succ, ← Nat.mul_assoc]
          rw [if_neg (by omega)]
          omega
        rw [this]; exact ih n
    exact half 8 x
  have d0 : (UInt8.ofNat (b % 256)).toNat = b % 256 := by simp [UInt8.toNat_ofNat']
  have d1 : (UInt8.ofNat (b / 256 % 256)).toNat = b / 256 % 256 := by simp [UInt8.toNat_ofNat']
  have d2 : (UInt8.ofNat (b / 65536 % 256)).toNat = b / 65536 % 256 := by simp [UInt8.toNat_ofNat']
  have d3 : (UInt8.ofNat (b / 16777216 % 256)).toNat = b / 16777216 % 256 := by simp [UInt8.toNat_ofNat']
  simp only [run, List.foldl_cons, List.foldl_nil, step, d0, d1, d2, d3, Nat.zero_xor]
  have s1 : bitN 8 b = (b / 256) ^^^ bitN 8 (b % 256) := by
    have := key 0 (b / 256) (b % 256) (by omega) (by omega) (by omega)
    rw [Nat.pow_one, show b / 256 * 256 + b % 256 = b by omega] at this; exact this
  have s2 : bitN 8 (b / 256) = (b / 65536) ^^^ bitN 8 (b / 256 % 256) := by
    have := key 1 (b / 65536) (b / 256 % 256) (by omega) (by omega) (by omega)
    rw [Nat.pow_one, show b / 65536 * 256 + b / 256 % 256 = b / 256 by omega] at this; exact this
  have s3 : bitN 8 (b / 65536) = (b / 16777216) ^^^ bitN 8 (b / 65536 % 256) := by
    have := key 2 (b / 16777216) (b / 65536 % 256) (by omega) (by omega) (by omega)
    rw [Nat.pow_one, show b / 16777216 * 256 + b / 65536 % 256 = b / 65536 by omega] at this; exact this
  have e16 : bitN 16 b = bitN 8 (bitN 8 b) := bitN_add 8 8 b
  have e24 : bitN 24 b = bitN 8 (bitN 8 (bitN 8 b)) := by rw [show (24 : Nat) = 8 + 16 from rfl, bitN_add, e16]
  have e32 : bitN 32 b = bitN 8 (bitN 8 (bitN 8 (bitN 8 b))) := by rw [show (32 : Nat) = 8 + 24 from rfl, bitN_add, e24]
  rw [e32, s1, bitN_xor 8 (b / 256), s2, Nat.xor_assoc, bitN_xor 8 (b / 65536), s3, Nat.xor_assoc, bitN_xor 8 (b / 16777216), show b / 16777216 % 256 = b / 16777216 by omega]
  simp only [bitN_xor]
  apply Nat.eq_of_testBit_eq
  intro i
  simp only [Nat.testBit_xor]
  generalize (bitN 8 (b / 16777216)).testBit i = p1
  generalize (bitN 8 (bitN 8 (b / 65536 % 256))).testBit i = p2
  generalize (bitN 8 (bitN 8 (bitN 8 (b / 256 % 256)))).testBit i = p3
  generalize (bitN 8 (bitN 8 (bitN 8 (bitN 8 (b % 256))))).testBit i = p4
  cases p1 <;> cases p2 <;> cases p3 <;> cases p4 <;> rfl
theorem xor_cancel {a b : Nat} (h : a ^^^ b = a) : b = 0 := by
  have := congrArg (a ^^^ ·) h
  simpa [← Nat.xor_assoc] using this
theorem run_turned (x : Nat) (hx : x < 4294967296) (p q : List UInt8) (c0 c1 c2 c3 : UInt8) (b : Nat) (hb : b < 4294967296) (h0 : b ≠ 0) :
    run x (p ++ (c0 ^^^ UInt8.ofNat (b % 256)) :: (c1 ^^^ UInt8.ofNat (b / 256 % 256)) :: (c2 ^^^ UInt8.ofNat (b / 65536 % 256)) :: (c3 ^^^ UInt8.ofNat (b / 16777216 % 256)) :: q) ≠ run x (p ++ c0 :: c1 :: c2 :: c3 :: q) := by
  intro h
  rw [run_append, run_append] at h
  obtain ⟨y, hy⟩ : ∃ y, y = run x p := ⟨_, rfl⟩
  rw [← hy] at h
  have e : ∀ (l : List UInt8), run y (c0 :: c1 :: c2 :: c3 :: l) = run (run y [c0, c1, c2, c3]) l := fun l => run_append y [c0, c1, c2, c3] l
  have e2 : ∀ (d0 d1 d2 d3 : UInt8) (l : List UInt8), run y ((c0 ^^^ d0) :: (c1 ^^^ d1) :: (c2 ^^^ d2) :: (c3 ^^^ d3) :: l) = run (run y [c0, c1, c2, c3] ^^^ run 0 [d0, d1, d2, d3]) l := by
    intro d0 d1 d2 d3 l
    refine (run_append y [c0 ^^^ d0, c1 ^^^ d1, c2 ^^^ d2, c3 ^^^ d3] l).trans ?_
    have : run (y ^^^ 0) [c0 ^^^ d0, c1 ^^^ d1, c2 ^^^ d2, c3 ^^^ d3] = run y [c0, c1, c2, c3] ^^^ run 0 [d0, d1, d2, d3] := by
      simp only [run, List.foldl_cons, List.foldl_nil, step_xor]
    rw [Nat.xor_zero] at this
    rw [this]
  rw [e, e2, split4 b hb, run_xor_zero] at h
  have h1 := xor_cancel h
  have h2 : run (bitN 32 b) (List.replicate q.length 0) = run 0 (List.replicate q.length 0) := by rw [h1, run_zero]
  have inj : ∀ (l : List UInt8) (x y : Nat), x < 4294967296 → y < 4294967296 → run x l = run y l → x = y := by
    intro l
    induction l with
    | nil => intro x y _ _ h; exact h
    | cons c l ih =>
      intro x y hx hy h
      have h1 := ih _ _ (step_lt hx c) (step_lt hy c) h
      have h2 := bitN_inj 8 (xor_lt32 hx (byte_lt c)) (xor_lt32 hy (byte_lt c)) h1
      have h3 := congrArg (· ^^^ c.toNat) h2
      simpa [Nat.xor_assoc] using h3
  have h3 := inj _ _ _ (bitN_lt 32 hb) (by decide) h2
  have h4 : bitN 32 b = bitN 32 0 := by rw [h3]; decide
  exact h0 (bitN_inj 32 hb (by decide) h4)
theorem split_four (l : List UInt8) (a : Nat) (ha : a + 4 ≤ l.length) : ∃ p c0 c1 c2 c3 q, l = p ++ c0 :: c1 :: c2 :: c3 :: q ∧ p.length = a := by
  have e0 := List.drop_eq_getElem_cons (l := l) (i := a) (by omega)
  have e1 := List.drop_eq_getElem_cons (l := l) (i := a + 1) (by omega)
  have e2 := List.drop_eq_getElem_cons (l := l) (i := a + 1 + 1) (by omega)
  have e3 := List.drop_eq_getElem_cons (l := l) (i := a + 1 + 1 + 1) (by omega)
  have e := (List.take_append_drop a l).symm
  rw [e0, e1, e2, e3] at e
  exact ⟨_, _, _, _, _, _, e, by rw [List.length_take]; omega⟩
/-- Four bytes of which some bits are turned: the sum is another. -/
theorem more_turned (l : List UInt8) (a b : Nat) (ha : a + 4 ≤ l.length) (hb : b < 4294967296) (h0 : b ≠ 0) : more 0 (turnB a b 4 l) ≠ more 0 l := by
  obtain ⟨p, c0, c1, c2, c3, q, rfl, hp⟩ := split_four l a ha
  rw [turnB_four a b p q c0 c1 c2 c3 hp]
  intro h
  have h1 := congrArg neg h
  unfold more at h1
  rw [neg_neg, neg_neg] at h1
  exact run_turned (neg 0) (neg_lt (by decide)) p q c0 c1 c2 c3 b hb h0 h1
end Go.Proofs.Ytggngbbkachpaaa.CrcPlain
