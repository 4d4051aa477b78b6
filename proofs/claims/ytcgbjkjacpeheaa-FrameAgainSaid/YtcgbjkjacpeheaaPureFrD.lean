/- Frames in lists of bytes, further: Read and its reference; Write; what each says of the other. -/
import Derived.Test.YtcgbjkjacpeheaaPFrx2
import Derived.Test.YtcgbjkjacpeheaaPFrx10
import Derived.Test.YtcgbjkjacpeheaaPFrx5
import Derived.Test.YtcgbjkjacpeheaaPFrx6
import Derived.Test.YtcgbjkjacpeheaaPFrx7
import Derived.Test.YtcgbjkjacpeheaaPFrx9
import Derived.Test.YtcgbjkjacpeheaaPureFrB
namespace Go.Proofs.Ytcgbjkjacpeheaa.Pure
set_option linter.unusedVariables false
set_option linter.unusedSimpArgs false
open Go.RowKit Go.Proofs.Ytcgbjkjacpeheaa.PFr Go.Proofs.Ytcgbjkjacpeheaa.Given Go.Proofs.Ytcgbjkjacpeheaa.Bs Go.Proofs.Ytcgbjkjacpeheaa.WirePlain Go.Proofs.Ytcgbjkjacpeheaa.KeyPlain Go.Proofs.Ytcgbjkjacpeheaa.RunesPlain Go.Proofs.Ytcgbjkjacpeheaa.CrcPlain Go.Proofs.YtcgbjkjacpeheaaW.PrintWords Go.Proofs.YtcgbjkjacpeheaaW.PrintLast Go.Proofs.YtcgbjkjacpeheaaW.PrintMore
theorem hasPrefix_f (l m : List UInt8) : stringslite_HasPrefix.f (bs l) (bs m) = some (l.take m.length == m) := by
  unfold stringslite_HasPrefix.f
  rw [bs_size, bs_size]
  by_cases h : (l.length : Int) ≥ (m.length : Int)
  · rw [if_pos h, if_pos (by omega), if_pos (by omega), Int.toNat_natCast, bs_extract_zero, bs_toList, bs_toList]
  · rw [if_neg h]
    have : (l.take m.length == m) = false := by
      simp only [beq_eq_false_iff_ne, ne_eq]
      intro hc
      have := congrArg List.length hc
      rw [List.length_take] at this; omega
    rw [this]
theorem cutPrefix_f (l m : List UInt8) : strings_CutPrefix.f (bs l) (bs m) = some (if l.take m.length = m then (bs (l.drop m.length), true) else (bs l, false)) := by
  unfold strings_CutPrefix.f stringslite_CutPrefix.f
  rw [hasPrefix_f, Option.bind_some]
  by_cases h : l.take m.length = m
  · have hl : m.length ≤ l.length := by
      have := congrArg List.length h
      rw [List.length_take] at this; omega
    rw [if_pos (by simpa using h), if_pos h, bs_size, bs_size, if_pos (by omega), if_pos (by omega), Int.toNat_natCast, bs_extract_end]; rfl
  · rw [if_neg (by simpa using h), if_neg h]; rfl
abbrev RR := Int × List S62 × List UInt8 × Int
def outR (r : RR) : Int × List S62 × ByteArray × Int := (r.1, r.2.1, bs r.2.2.1, r.2.2.2)
/-- What Read answers of bytes that begin with a G; r: what stands behind that. -/
def readG (r : List UInt8) : RR :=
  if r.length < 8 then (0, [], [], 4) else
  if r.length < lowN ((r.drop 4).take 4) + 12 then (0, [], [], 4) else
  if lowN ((r.drop (8 + lowN ((r.drop 4).take 4))).take 4) ≠ more 0 (71 :: r.take (8 + lowN ((r.drop 4).take 4))) then (0, [], [], 6) else
  match parseL ((r.drop 8).take (lowN ((r.drop 4).take 4))) with
  | none => (0, [], [], 5)
  | some cs => if checkL cs = 0 then (((lowN (r.take 4) : Nat) : Int), cs, r.drop (12 + lowN ((r.drop 4).take 4)), 0) else (0, [], [], 5)
def readF (l : List UInt8) : RR := if l = [] then (0, [], [], 4) else if l.take 1 = [71] then readG (l.drop 1) else (0, [], [], 5)
theorem sizes_parse : ∀ (n : Nat) (s : List UInt8) (cs : List S62), s.length ≤ n → parseL s = some cs → ∀ c ∈ cs, c.f0.size ≤ s.length := by
  intro n
  induction n with
  | zero =>
    intro s cs hs h c hc
    obtain rfl : s = [] := List.eq_nil_of_length_eq_zero (by omega)
    rw [parseL] at h
    obtain rfl := Option.some.inj h
    simp at hc
  | succ n ih =>
    intro s cs hs h c hc
    cases s with
    | nil => rw [parseL] at h; obtain rfl := Option.some.inj h; simp at hc
    | cons b m =>
      have hm : m.length ≤ n := by simpa using hs
      have h1 := takeL_len m
      have h2 := takeL_len (takeL m).2.1
      have ht : (takeL m).1.length ≤ m.length := by
        unfold takeL; split
        · simp
        · split
          · simp
          · simp only [List.length_take, List.length_drop]; omega
      rw [parseL] at h
      split at h
      · split at h
        · split at h
          · cases hp : parseL (takeL (takeL m).2.1).2.1 with
            | none => rw [hp] at h; simp at h
            | some r =>
              rw [hp] at h
              simp only [Option.map_some, Option.some.injEq] at h
              subst h
              rcases List.mem_cons.1 hc with rfl | hc
              · rw [bs_size]; simp only [List.length_cons]; omega
              · have := ih _ r (by omega) hp c hc
                simp only [List.length_cons]; omega
          · cases h
        · split at h
          · cases hp : parseL (takeL m).2.1 with
            | none => rw [hp] at h; simp at h
            | some r =>
              rw [hp] at h
              simp only [Option.map_some, Option.some.injEq] at h
              subst h
              rcases List.mem_cons.1 hc with rfl | hc
              · rw [bs_size]; simp only [List.length_cons]; omega
              · have := ih _ r (by omega) hp c hc
                simp only [List.length_cons]; omega
          · cases h
      · cases h
theorem pow4 : (256 : Nat) ^ 4 = 4294967296 := by decide
theorem low4 (l : List UInt8) : lowN (l.take 4) < 4294967296 := by
  have h := lowN_lt (l.take 4)
  have h2 := Nat.pow_le_pow_right (n := 256) (by decide) (show (l.take 4).length ≤ 4 by rw [List.length_take]; omega)
  have := pow4; omega
theorem cut4 (l : List UInt8) : cutL l 4 = if l.length < 4 then (0, [], 4) else (((lowN (l.take 4) : Nat) : Int), l.drop 4, 0) := by
  by_cases h : l.length < 4
  · rw [if_pos h]; unfold cutL; rw [if_neg (by omega), if_pos (by omega)]
  · rw [if_neg h]; exact cutL_ok (s := 4) (by decide) (by decide) (by omega)
theorem readJ (k : Nat) (hk : 140 ≤ k) (r : List UInt8) (hl : r.length ≤ 900000) (h8 : ¬ r.length < 8) :
    frame_Read.j0 (k + 1) (bs (71 :: r)) (bs (r.drop 8)) ((lowN (r.take 4) : Nat) : Int) ((lowN ((r.drop 4).take 4) : Nat) : Int) (decide (((bs (r.drop 8)).size : Int) < wrap64 (((lowN ((r.drop 4).take 4) : Nat) : Int) + 4))) = some (outR (readG r)) := by
  have hn := low4 (r.drop 4)
  unfold readG
  rw [if_neg h8]
  generalize lowN ((r.drop 4).take 4) = n at *
  rw [wrap_id (a := (n : Int) + 4) (by omega) (by omega), bs_size, List.length_drop, frame_Read.j0]
  by_cases hc : r.length < n + 12
  · rw [if_pos (by simp; omega), if_pos hc]; rfl
  · rw [if_neg (by simp; omega), if_neg hc, if_pos (by omega), bs_size, List.length_drop, if_pos (by omega), Int.toNat_natCast]
    have e1 : (bs (r.drop 8)).extract n (r.length - 8) = bs (r.drop (8 + n)) := by
      have := bs_extract_end (r.drop 8) n
      rw [List.length_drop, List.drop_drop] at this
      exact this
    have e2 : (bs (71 :: r)).extract 0 (9 + n) = bs (71 :: r.take (8 + n)) := by
      rw [bs_extract_zero, show 9 + n = (8 + n) + 1 by omega, List.take_succ_cons]
    have e3 : (bs (r.drop 8)).extract 0 n = bs ((r.drop 8).take n) := bs_extract_zero _ _
    have hcut : cutL (r.drop (8 + n)) 4 = (((lowN ((r.drop (8 + n)).take 4) : Nat) : Int), (r.drop (8 + n)).drop 4, 0) := by rw [cut4, if_neg (by rw [List.length_drop]; omega)]
    rw [e1, wire_Cut_f _ _ (by rw [List.length_drop]; omega), Option.bind_some, hcut]
    simp only []
    have hw : wrap64 (9 + (n : Int)) = ((9 + n : Nat) : Int) := by rw [wrap_id (by omega) (by omega)]; omega
    have hsz : (bs (71 :: r)).size = r.length + 1 := by rw [bs_size]; rfl
    rw [hw, if_pos (by omega), hsz, if_pos (by omega), Int.toNat_natCast, e2, PureC.crc_Sum_f _ (by rw [bs_size, List.length_cons, List.length_take]; omega), Option.bind_some, bs_data, e3]
    have hm := more_lt (s := 0) (by decide) (71 :: r.take (8 + n))
    rw [wrap_id (a := ((more 0 (71 :: r.take (8 + n)) : Nat) : Int)) (by omega) (by omega)]
    by_cases hs : lowN ((r.drop (8 + n)).take 4) = more 0 (71 :: r.take (8 + n))
    · rw [if_pos (by rw [hs]), if_neg (by simpa using hs)]
      obtain ⟨g1, g2⟩ := frame_changes_f ((r.drop 8).take n) (by rw [List.length_take, List.length_drop]; omega)
      cases hp : parseL ((r.drop 8).take n) with
      | none =>
        obtain ⟨l, hl2⟩ := g2 hp
        rw [hl2, Option.bind_some, if_neg (by simp)]; rfl
      | some cs =>
        rw [g1 cs hp, Option.bind_some, if_pos rfl]
        have hz := sizes_parse _ _ cs (Nat.le_refl _) hp
        rw [frame_Check_f k hk cs (fun c hc => by have := hz c hc; rw [List.length_take, List.length_drop] at this; omega), Option.bind_some]
        by_cases h0 : checkL cs = 0
        · simp only [h0, if_true]
          unfold outR
          simp only [List.drop_drop]
          rw [show 8 + n + 4 = 12 + n by omega]
        · simp only [h0, if_false]; rfl
    · rw [if_neg (by omega), if_pos (by simpa using hs)]; rfl
theorem frame_Read_f (k : Nat) (hk : 141 ≤ k) (l : List UInt8) (hl : l.length ≤ 900000) : frame_Read.f k (bs l) = some (outR (readF l)) := by
  obtain ⟨k, rfl⟩ : ∃ m, k = m + 1 := ⟨k - 1, by omega⟩
  unfold frame_Read.f readF
  rw [show (⟨#[71]⟩ : ByteArray) = bs [71] from rfl, cutPrefix_f, Option.bind_some, bs_toList]
  by_cases h0 : l = []
  · rw [if_pos h0, if_pos h0]; rfl
  · rw [if_neg h0, if_neg h0]
    by_cases hp : l.take 1 = [71]
    · have hr : l = 71 :: l.drop 1 := by
        cases l with
        | nil => exact absurd rfl h0
        | cons c m => simp at hp; rw [hp]; rfl
      have e : (if l.take ([71] : List UInt8).length = [71] then (bs (l.drop ([71] : List UInt8).length), true) else (bs l, false)) = (bs (l.drop 1), true) := if_pos hp
      rw [e, if_pos hp, if_pos rfl]
      generalize l.drop 1 = r at *
      subst hr
      have hrl : r.length ≤ 900000 := by simp at hl; omega
      simp only []
      rw [wire_Cut_f r 4 (by omega), Option.bind_some, cut4]
      by_cases h4 : r.length < 4
      · rw [if_pos h4]
        simp only []
        rw [wire_Cut_f [] 4 (by simp), Option.bind_some, show cutL [] 4 = (0, [], 4) from rfl, if_neg (by decide), frame_Read.j0, if_pos rfl]
        unfold readG
        rw [if_pos (by omega)]; rfl
      · rw [if_neg h4]
        simp only []
        rw [wire_Cut_f _ 4 (by rw [List.length_drop]; omega), Option.bind_some, cut4]
        by_cases h8 : (r.drop 4).length < 4
        · rw [if_pos h8]
          simp only []
          rw [if_neg (by unfold mx; decide), frame_Read.j0, if_pos rfl]
          unfold readG
          rw [List.length_drop] at h8
          rw [if_pos (by omega)]; rfl
        · rw [if_neg h8]
          simp only [List.drop_drop]
          rw [if_pos (by unfold mx; decide)]
          rw [List.length_drop] at h8
          exact readJ k (by omega) r hrl (by omega)
    · have e : (if l.take ([71] : List UInt8).length = [71] then (bs (l.drop ([71] : List UInt8).length), true) else (bs l, false)) = (bs l, false) := if_neg hp
      rw [e, if_neg hp, if_neg Bool.false_ne_true]; rfl
end Go.Proofs.Ytcgbjkjacpeheaa.Pure
