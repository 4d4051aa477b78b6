/- Plain arithmetic of wire's numbers and texts: the bytes of a number, the number of bytes, and that each is the other's back. No program in sight. -/
namespace Go.Proofs.Ytmnpejoolbipeaa.WirePlain
/-- The lowest bytes of a number, the lowest first. -/
def lowB : Nat → Nat → List UInt8
  | 0, _ => []
  | s + 1, n => UInt8.ofNat (n % 256) :: lowB s (n / 256)
/-- The number of bytes, the first the lowest. -/
def lowN : List UInt8 → Nat
  | [] => 0
  | c :: l => c.toNat + 256 * lowN l
theorem lowB_length (s n : Nat) : (lowB s n).length = s := by
  induction s generalizing n with
  | zero => rfl
  | succ s ih => simp [lowB, ih]
theorem lowN_lt : ∀ l : List UInt8, lowN l < 256 ^ l.length
  | [] => by simp [lowN]
  | c :: l => by
    have h := lowN_lt l
    have hc := c.toNat_lt
    simp only [lowN, List.length_cons, Nat.pow_succ]
    omega
theorem lowN_lowB (s n : Nat) : lowN (lowB s n) = n % 256 ^ s := by
  induction s generalizing n with
  | zero => simp [lowB, lowN, Nat.mod_one]
  | succ s ih =>
    simp only [lowB, lowN, ih]
    have : (UInt8.ofNat (n % 256)).toNat = n % 256 := by simp [UInt8.toNat_ofNat']
    rw [this, Nat.pow_succ, Nat.mul_comm (256 ^ s) 256, Nat.mod_mul]
theorem lowN_lowB_lt {s n : Nat} (h : n < 256 ^ s) : lowN (lowB s n) = n := by rw [lowN_lowB, Nat.mod_eq_of_lt h]
theorem lowB_lowN : ∀ l : List UInt8, lowB l.length (lowN l) = l
  | [] => rfl
  | c :: l => by
    have hc := c.toNat_lt
    have h1 : (c.toNat + 256 * lowN l) % 256 = c.toNat := by omega
    have h2 : (c.toNat + 256 * lowN l) / 256 = lowN l := by omega
    simp only [List.length_cons, lowN, lowB, h1, h2, lowB_lowN l]
    simp
theorem lowB_inj {s a b : Nat} (ha : a < 256 ^ s) (hb : b < 256 ^ s) (h : lowB s a = lowB s b) : a = b := by
  rw [← lowN_lowB_lt ha, h, lowN_lowB_lt hb]
theorem pow_le7 {s : Nat} (h : s ≤ 7) : 256 ^ s ≤ 72057594037927936 := by
  have := Nat.pow_le_pow_right (n := 256) (by decide) h
  have e : (256 : Nat) ^ 7 = 72057594037927936 := by decide
  omega
/-- What Put answers. -/
def putL (n size : Int) : List UInt8 × Int :=
  if size < 1 ∨ 7 < size ∨ n < 0 then ([], 1) else if n.toNat / 256 ^ size.toNat > 0 then ([], 12) else (lowB size.toNat n.toNat, 0)
/-- What Cut answers. -/
def cutL (l : List UInt8) (size : Int) : Int × List UInt8 × Int :=
  if size < 1 ∨ 7 < size then (0, [], 1) else if (l.length : Int) < size then (0, [], 4) else (((lowN (l.take size.toNat) : Nat) : Int), l.drop size.toNat, 0)
/-- What Text answers. -/
def textL (l : List UInt8) : List UInt8 × Int := if l.length < 65536 then (lowB 2 l.length ++ l, 0) else ([], 12)
/-- What Take answers. -/
def takeL (l : List UInt8) : List UInt8 × List UInt8 × Int :=
  if l.length < 2 then ([], [], 4) else if l.length - 2 < lowN (l.take 2) then ([], [], 4) else ((l.drop 2).take (lowN (l.take 2)), (l.drop 2).drop (lowN (l.take 2)), 0)
theorem putL_ok {n s : Nat} (h1 : 1 ≤ s) (h7 : s ≤ 7) (h : n < 256 ^ s) : putL n s = (lowB s n, 0) := by
  unfold putL
  rw [if_neg (by omega), if_neg (by simp [Nat.div_eq_of_lt h])]; simp
theorem cutL_ok {l : List UInt8} {s : Nat} (h1 : 1 ≤ s) (h7 : s ≤ 7) (h : s ≤ l.length) : cutL l s = (((lowN (l.take s) : Nat) : Int), l.drop s, 0) := by
  unfold cutL
  rw [if_neg (by omega), if_neg (by omega)]; simp
theorem cutL_put (s n : Nat) (l : List UInt8) (h1 : 1 ≤ s) (h7 : s ≤ 7) (h : n < 256 ^ s) : cutL (lowB s n ++ l) s = ((n : Int), l, 0) := by
  have hl := lowB_length s n
  rw [cutL_ok h1 h7 (by simp [hl]), List.take_left' hl, List.drop_left' hl, lowN_lowB_lt h]
theorem textL_ok {l : List UInt8} (h : l.length < 65536) : textL l = (lowB 2 l.length ++ l, 0) := by unfold textL; rw [if_pos h]
theorem takeL_text (l m : List UInt8) (h : l.length < 65536) : takeL (lowB 2 l.length ++ l ++ m) = (l, m, 0) := by
  have hl := lowB_length 2 l.length
  have e1 : (lowB 2 l.length ++ l ++ m).take 2 = lowB 2 l.length := by rw [List.append_assoc, List.take_left' hl]
  have e2 : (lowB 2 l.length ++ l ++ m).drop 2 = l ++ m := by rw [List.append_assoc, List.drop_left' hl]
  have e3 := lowN_lowB_lt (s := 2) (n := l.length) (by simpa using h)
  unfold takeL
  rw [if_neg (by simp [hl]), e1, e2, e3, if_neg (by simp [hl])]
  simp
theorem takeL_back {l a b : List UInt8} (h : takeL l = (a, b, 0)) : l = lowB 2 a.length ++ a ++ b ∧ a.length < 65536 := by
  unfold takeL at h
  split at h
  · simp at h
  · split at h
    · simp at h
    · rename_i h1 h2
      simp only [Prod.mk.injEq, and_true] at h
      obtain ⟨rfl, rfl⟩ := h
      have hl : (l.take 2).length = 2 := by rw [List.length_take]; omega
      have hb := lowB_lowN (l.take 2)
      rw [hl] at hb
      have hlt := lowN_lt (l.take 2)
      rw [hl] at hlt
      have hm : ((l.drop 2).take (lowN (l.take 2))).length = lowN (l.take 2) := by rw [List.length_take, List.length_drop]; omega
      refine ⟨?_, by rw [hm]; simpa using hlt⟩
      rw [hm, hb, List.append_assoc, List.take_append_drop, List.take_append_drop]
theorem takeL_err (l : List UInt8) : (takeL l).2.2 = 0 ∨ takeL l = ([], [], 4) := by
  unfold takeL
  split
  · exact .inr rfl
  · split
    · exact .inr rfl
    · exact .inl rfl
theorem cutL_back {l r : List UInt8} {s : Nat} {n : Int} (h1 : 1 ≤ s) (h7 : s ≤ 7) (h : cutL l s = (n, r, 0)) : ∃ m : Nat, n = m ∧ m < 256 ^ s ∧ l = lowB s m ++ r := by
  unfold cutL at h
  rw [if_neg (by omega)] at h
  split at h
  · simp at h
  · rename_i h2
    simp only [Prod.mk.injEq, and_true, Int.toNat_natCast] at h
    obtain ⟨rfl, rfl⟩ := h
    have hl : (l.take s).length = s := by rw [List.length_take]; omega
    have hb := lowB_lowN (l.take s)
    rw [hl] at hb
    have hlt := lowN_lt (l.take s)
    rw [hl] at hlt
    exact ⟨_, rfl, hlt, by rw [hb, List.take_append_drop]⟩
end Go.Proofs.Ytmnpejoolbipeaa.WirePlain
