/- Frames in lists of bytes: what a group's Check, Write, Read and the reference's answer. -/
import Derived.Test.YtcgbjkjacpeheaaPFrx2
import Derived.Test.YtcgbjkjacpeheaaPFrx10
import Derived.Test.YtcgbjkjacpeheaaPFrx5
import Derived.Test.YtcgbjkjacpeheaaPFrx6
import Derived.Test.YtcgbjkjacpeheaaPFrx7
import Derived.Test.YtcgbjkjacpeheaaPFrx9
import Derived.Test.YtcgbjkjacpeheaaPureFrA
import Derived.Test.YtcgbjkjacpeheaaPureFrK
import Derived.Test.YtcgbjkjacpeheaaPureFrC
import Derived.Test.YtcgbjkjacpeheaaFrWrite
import Derived.Test.YtcgbjkjacpeheaaFrChanges
namespace Go.Proofs.Ytcgbjkjacpeheaa.Pure
set_option linter.unusedVariables false
set_option linter.unusedSimpArgs false
open Go.RowKit Go.Proofs.Ytcgbjkjacpeheaa.PFr Go.Proofs.Ytcgbjkjacpeheaa.Given Go.Proofs.Ytcgbjkjacpeheaa.Bs Go.Proofs.Ytcgbjkjacpeheaa.WirePlain Go.Proofs.Ytcgbjkjacpeheaa.KeyPlain Go.Proofs.Ytcgbjkjacpeheaa.RunesPlain Go.Proofs.Ytcgbjkjacpeheaa.CrcPlain Go.Proofs.YtcgbjkjacpeheaaW.PrintWords Go.Proofs.YtcgbjkjacpeheaaW.PrintLast Go.Proofs.YtcgbjkjacpeheaaW.PrintMore
theorem rd_getC (l : List S62) (i : Nat) (h : i < l.length) : rd_T62 l (i : Int) = l[i] := by
  unfold rd_T62; rw [Int.toNat_natCast, List.getD_eq_getElem?_getD, List.getElem?_eq_getElem h]; rfl
theorem toList_nil (a : ByteArray) : a.toList = [] ↔ a.data.toList = [] := by rw [ByteArray.toList_eq]
def checkC (c : S62) : Int :=
  if checkR (runesR c.f0.data.toList) = 0 then (if (c.f1.size : Int) > 1024 then 12 else if c.f2 = true then (if c.f1.toList = [] then 0 else 1) else 0) else checkR (runesR c.f0.data.toList)
def checkAll : List S62 → Int
  | [] => 0
  | c :: l => if checkC c = 0 then checkAll l else checkC c
theorem checkAll_cons (c : S62) (l : List S62) : checkAll (c :: l) = if checkC c = 0 then checkAll l else checkC c := rfl
def checkL (l : List S62) : Int := if l.length > 64 then 12 else if checkAll l = 0 then (if l = [] then 1 else 0) else checkAll l
theorem check_end (l : List S62) : (if (l.length : Int) = 0 then some (1 : Int) else some 0) = some (if l = [] then 1 else 0) := by
  cases l <;> simp
  omega
theorem fcheck_loop (l : List S62) (hl : l.length ≤ 64) (hs : ∀ c ∈ l, c.f0.size ≤ 1000000) : ∀ (d k i : Nat), i + d = l.length →
    frame_Check.l0 (k + d + 71) l l (l.length : Int) (i : Int) = some (if checkAll (l.drop i) = 0 then (if l = [] then 1 else 0) else checkAll (l.drop i)) := by
  intro d
  induction d with
  | zero =>
    intro k i hi
    rw [List.drop_of_length_le (by omega), frame_Check.l0, if_neg (by omega), check_end]; rfl
  | succ d ih =>
    intro k i hi
    have hlt : i < l.length := by omega
    rw [show k + (d + 1) + 71 = (k + d + 71) + 1 by omega, frame_Check.l0, if_pos (by omega), if_pos (by omega), if_pos (by omega), rd_getC l i hlt, List.drop_eq_getElem_cons hlt]
    have hx : wrap64 ((i : Int) + 1) = ((i + 1 : Nat) : Int) := by rw [wrap_id (by omega) (by omega)]; omega
    rw [hx, ih k (i + 1) (by omega)]
    have hc := hs l[i] (List.getElem_mem hlt)
    generalize l[i] = c at *
    have hk := key_Check_f (k + d + 71) (by omega) c.f0.data.toList (by rw [data_length]; exact hc)
    rw [← bs_of] at hk
    rw [hk, Option.bind_some]
    simp only [checkAll_cons, checkC]
    by_cases h0 : checkR (runesR c.f0.data.toList) = 0
    · simp only [h0, if_true]
      by_cases h1 : (c.f1.size : Int) > 1024
      · simp [h1]
      · simp only [h1, if_false]
        by_cases h2 : c.f2 = true
        · simp only [h2, if_true]
          by_cases h3 : c.f1.toList = []
          · simp [h3]
          · simp [h3]
        · simp [h2]
    · simp only [h0, if_false]
theorem frame_Check_f (k : Nat) (hk : 140 ≤ k) (l : List S62) (hs : ∀ c ∈ l, c.f0.size ≤ 1000000) : frame_Check.f k l = some (checkL l) := by
  unfold frame_Check.f checkL
  by_cases hl : l.length > 64
  · rw [if_pos (by omega), if_pos hl]
  · rw [if_neg (by omega), if_neg hl]
    have := fcheck_loop l (by omega) hs l.length (k - l.length - 71) 0 (by omega)
    rw [show k - l.length - 71 + l.length + 71 = k by omega, List.drop_zero] at this
    rw [show ((0 : Nat) : Int) = 0 from rfl] at this
    rw [this]
theorem rcheck_loop (l : List S62) (hl : l.length ≤ 64) (M : Nat) (hM : M ≤ 1000000) (hs : ∀ c ∈ l, c.f0.size ≤ M) : ∀ (d k i : Nat), i + d = l.length →
    sheetpileref19_Check.l0 (k + d + 3 * M + 81) l (i : Int) = some (if checkAll (l.drop i) = 0 then (if l = [] then 1 else 0) else checkAll (l.drop i)) := by
  intro d
  induction d with
  | zero =>
    intro k i hi
    rw [List.drop_of_length_le (by omega), sheetpileref19_Check.l0, if_neg (by omega), check_end]; rfl
  | succ d ih =>
    intro k i hi
    have hlt : i < l.length := by omega
    rw [show k + (d + 1) + 3 * M + 81 = (k + d + 3 * M + 81) + 1 by omega, sheetpileref19_Check.l0, if_pos (by omega), if_pos (by omega), rd_getC l i hlt, List.drop_eq_getElem_cons hlt]
    have hx : wrap64 ((i : Int) + 1) = ((i + 1 : Nat) : Int) := by rw [wrap_id (by omega) (by omega)]; omega
    rw [hx, ih k (i + 1) (by omega)]
    have hc := hs l[i] (List.getElem_mem hlt)
    generalize l[i] = c at *
    have hk := ref_Check_f c.f0.data.toList (by rw [data_length]; omega) (k + d + 3 * M + 81) (by rw [data_length]; omega)
    rw [← bs_of] at hk
    rw [hk, Option.bind_some]
    simp only [checkAll_cons, checkC]
    by_cases h0 : checkR (runesR c.f0.data.toList) = 0
    · simp only [h0, if_true]
      by_cases h1 : (c.f1.size : Int) > 1024
      · simp [h1]
      · simp only [h1, if_false]
        by_cases h2 : c.f2 = true
        · simp only [h2, if_true]
          by_cases h3 : c.f1.toList = []
          · simp [h3]
          · simp [h3]
        · simp [h2]
    · simp only [h0, if_false]
theorem ref19_Check_f (M : Nat) (hM : M ≤ 1000000) (k : Nat) (hk : 3 * M + 150 ≤ k) (l : List S62) (hs : ∀ c ∈ l, c.f0.size ≤ M) : sheetpileref19_Check.f k l = some (checkL l) := by
  unfold sheetpileref19_Check.f checkL
  by_cases hl : l.length > 64
  · rw [if_pos (by omega), if_pos hl]
  · rw [if_neg (by omega), if_neg hl]
    have := rcheck_loop l (by omega) M hM hs l.length (k - l.length - 3 * M - 81) 0 (by omega)
    rw [show k - l.length - 3 * M - 81 + l.length + 3 * M + 81 = k by omega, List.drop_zero] at this
    rw [show ((0 : Nat) : Int) = 0 from rfl] at this
    rw [this]
theorem takeL_len (l : List UInt8) : (takeL l).2.1.length ≤ l.length := by
  unfold takeL
  split
  · simp
  · split
    · simp
    · simp only [List.length_drop]; omega
/-- The changes of bytes; none: they are none. -/
def parseL : List UInt8 → Option (List S62)
  | [] => some []
  | c :: m => if (takeL m).2.2 = 0 then
      (if c = 0 then (if (takeL (takeL m).2.1).2.2 = 0 then (parseL (takeL (takeL m).2.1).2.1).map (fun r => (⟨bs (takeL m).1, bs (takeL (takeL m).2.1).1, false⟩ : S62) :: r) else none)
       else if c = 1 then (parseL (takeL m).2.1).map (fun r => (⟨bs (takeL m).1, ⟨#[]⟩, true⟩ : S62) :: r) else none) else none
termination_by s => s.length
decreasing_by
  · have h1 := takeL_len m; have h2 := takeL_len (takeL m).2.1; simp only [List.length_cons]; omega
  · have h1 := takeL_len m; simp only [List.length_cons]; omega
theorem bs_nil : (⟨#[]⟩ : ByteArray) = bs [] := rfl
theorem bt_zero (c : UInt8) (m : List UInt8) : bt (bs (c :: m)) 0 = ((c.toNat : Nat) : Int) := by
  have := bt_bs (c :: m) 0 (by simp)
  rw [show ((0 : Nat) : Int) = 0 from rfl] at this
  rw [this]; rfl
theorem byte_eq (c : UInt8) (n : Nat) (hn : n < 256) : ((c.toNat : Nat) : Int) = (n : Int) ↔ c = UInt8.ofNat n := by
  constructor
  · intro h
    have : c.toNat = n := by omega
    rw [← this]; simp
  · rintro rfl
    have : (UInt8.ofNat n).toNat = n := by simp [UInt8.toNat_ofNat', Nat.mod_eq_of_lt hn]
    rw [this]
theorem chF_parse : ∀ (n : Nat) (s : List UInt8) (acc : List S62), s.length < n → n ≤ 8000003 →
    (∀ cs, parseL s = some cs → chF n (bs s) acc = some (acc ++ cs, true)) ∧ (parseL s = none → ∃ l, chF n (bs s) acc = some (l, false)) := by
  intro n
  induction n with
  | zero => intro s acc h; omega
  | succ n ih =>
    intro s acc hs hn
    cases s with
    | nil =>
      rw [parseL, chF, if_pos (by rw [bs_toList])]
      refine ⟨fun cs h => ?_, fun h => by cases h⟩
      obtain rfl := Option.some.inj h
      simp
    | cons c m =>
      have hm : m.length < n := by simpa using hs
      have e1 : (bs (c :: m)).extract 1 (bs (c :: m)).size = bs m := by rw [bs_size, bs_extract_end]; rfl
      have hcne : ¬ (bs (c :: m)).toList = [] := by rw [bs_toList]; simp
      have h1 := takeL_len m
      have h2 := takeL_len (takeL m).2.1
      rw [parseL, chF, if_neg hcne, e1, wire_Take_f m (by omega), Option.bind_some, bt_zero]
      simp only []
      rw [wire_Take_f (takeL m).2.1 (by omega), Option.bind_some]
      simp only []
      have b0 := byte_eq c 0 (by decide)
      have b1 := byte_eq c 1 (by decide)
      rw [show ((0 : Nat) : Int) = 0 from rfl] at b0
      rw [show ((1 : Nat) : Int) = 1 from rfl] at b1
      rw [show UInt8.ofNat 0 = 0 from rfl] at b0
      rw [show UInt8.ofNat 1 = 1 from rfl] at b1
      by_cases c0 : c = 0
      · rw [if_pos (b0.2 c0), if_pos c0]
        by_cases t1 : (takeL m).2.2 = 0
        · rw [if_pos t1]
          by_cases t2 : (takeL (takeL m).2.1).2.2 = 0
          · rw [if_pos t2, if_pos (by simp [t1, t2])]
            obtain ⟨g1, g2⟩ := ih (takeL (takeL m).2.1).2.1 (acc ++ [⟨bs (takeL m).1, bs (takeL (takeL m).2.1).1, false⟩]) (by omega) (by omega)
            cases hp : parseL (takeL (takeL m).2.1).2.1 with
            | none => exact ⟨fun cs h => by simp at h, fun _ => g2 hp⟩
            | some r =>
              refine ⟨fun cs h => ?_, fun h => by simp at h⟩
              simp only [Option.map_some, Option.some.injEq] at h
              subst h
              rw [g1 r hp, List.append_assoc]; rfl
          · rw [if_neg t2, if_neg (by simp [t2])]
            exact ⟨fun cs h => by simp at h, fun _ => ⟨_, rfl⟩⟩
        · rw [if_neg t1, if_neg (by simp [t1])]
          exact ⟨fun cs h => by simp at h, fun _ => ⟨_, rfl⟩⟩
      · rw [if_neg (fun h => c0 (b0.1 h)), if_neg c0]
        by_cases c1 : c = 1
        · rw [if_pos (b1.2 c1), if_pos c1]
          by_cases t1 : (takeL m).2.2 = 0
          · rw [if_pos t1, if_pos (by simp [t1])]
            obtain ⟨g1, g2⟩ := ih (takeL m).2.1 (acc ++ [⟨bs (takeL m).1, ⟨#[]⟩, true⟩]) (by omega) (by omega)
            cases hp : parseL (takeL m).2.1 with
            | none => exact ⟨fun cs h => by simp at h, fun _ => g2 hp⟩
            | some r =>
              refine ⟨fun cs h => ?_, fun h => by simp at h⟩
              simp only [Option.map_some, Option.some.injEq] at h
              subst h
              rw [g1 r hp, List.append_assoc]; rfl
          · rw [if_neg t1, if_neg (by simp [t1])]
            exact ⟨fun cs h => by simp at h, fun _ => ⟨_, rfl⟩⟩
        · rw [if_neg (fun h => c1 (b1.1 h)), if_neg c1]
          refine ⟨fun cs h => by split at h <;> simp at h, fun _ => ⟨_, rfl⟩⟩
theorem frame_changes_f (s : List UInt8) (hs : s.length ≤ 8000000) : (∀ cs, parseL s = some cs → frame_changes.f (bs s) = some (cs, true)) ∧ (parseL s = none → ∃ l, frame_changes.f (bs s) = some (l, false)) := by
  unfold frame_changes.f
  rw [bs_size, if_pos hs]
  have := chF_parse (s.length + 2) s [] (by omega) (by omega)
  simpa using this
theorem parse_ref : ∀ (n : Nat) (s : List UInt8) (acc : List S62) (k : Nat), s.length ≤ n → n ≤ 1000000 → acc.length + n ≤ 2000000 →
    sheetpileref19_changes.l0 (k + 2 * n + 12) (bs s) acc = some (match parseL s with | some cs => (acc ++ cs, true) | none => ([], false)) := by
  intro n
  induction n with
  | zero =>
    intro s acc k hs hn ha
    obtain rfl : s = [] := List.eq_nil_of_length_eq_zero (by omega)
    rw [sheetpileref19_changes.l0, if_pos (by rw [bs_toList]), parseL]; simp
  | succ n ih =>
    intro s acc k hs hn ha
    cases s with
    | nil => rw [show k + 2 * (n + 1) + 12 = (k + 2 * (n + 1) + 11) + 1 by omega, sheetpileref19_changes.l0, if_pos (by rw [bs_toList]), parseL]; simp
    | cons c m =>
      have hm : m.length ≤ n := by simpa using hs
      have e1 : (bs (c :: m)).extract 1 (bs (c :: m)).size = bs m := by rw [bs_size, bs_extract_end]; rfl
      have hcne : ¬ (bs (c :: m)).toList = [] := by rw [bs_toList]; simp
      have h1 := takeL_len m
      have h2 := takeL_len (takeL m).2.1
      have hsz : (bs (c :: m)).size = m.length + 1 := by rw [bs_size]; rfl
      rw [show k + 2 * (n + 1) + 12 = (k + 2 * n + 12) + 1 + 1 by omega, sheetpileref19_changes.l0, if_neg hcne, if_pos (by omega), if_pos (by omega), e1, ref_Take_f _ (by omega) m (by omega), Option.bind_some, bt_zero]
      simp only []
      have b0 := byte_eq c 0 (by decide)
      have b1 := byte_eq c 1 (by decide)
      rw [show ((0 : Nat) : Int) = 0 from rfl] at b0
      rw [show ((1 : Nat) : Int) = 1 from rfl] at b1
      rw [show UInt8.ofNat 0 = 0 from rfl] at b0
      rw [show UInt8.ofNat 1 = 1 from rfl] at b1
      have hlim : acc.length < 3518437208883 := by omega
      rw [parseL]
      by_cases t1 : (takeL m).2.2 = 0
      · rw [if_pos t1, if_pos t1, sheetpileref19_changes.j1]
        by_cases c0 : c = 0
        · have hz : ((c.toNat : Nat) : Int) = 0 := b0.2 c0
          have hd : decide (((c.toNat : Nat) : Int) > 1) = false := by rw [hz]; decide
          have he : (((c.toNat : Nat) : Int) == 1) = false := by rw [hz]; decide
          rw [hd, he, if_neg (by decide), if_pos hz, if_pos c0, ref_Take_f _ (by omega) _ (by omega), Option.bind_some]
          simp only []
          by_cases t2 : (takeL (takeL m).2.1).2.2 = 0
          · rw [if_pos t2, if_pos t2, if_pos hlim, ih _ _ k (by omega) (by omega) (by simp; omega)]
            cases parseL (takeL (takeL m).2.1).2.1 with
            | none => simp
            | some r => simp
          · rw [if_neg t2, if_neg t2]
        · have hz : ¬ ((c.toNat : Nat) : Int) = 0 := fun h => c0 (b0.1 h)
          by_cases c1 : c = 1
          · have ho : ((c.toNat : Nat) : Int) = 1 := b1.2 c1
            have hd : decide (((c.toNat : Nat) : Int) > 1) = false := by rw [ho]; decide
            have he : (((c.toNat : Nat) : Int) == 1) = true := by rw [ho]; decide
            rw [hd, he, if_neg (by decide), if_neg hz, if_neg c0, if_pos c1, if_pos hlim, ih _ _ k (by omega) (by omega) (by simp; omega)]
            cases parseL (takeL m).2.1 with
            | none => simp
            | some r => simp
          · have ho : ¬ ((c.toNat : Nat) : Int) = 1 := fun h => c1 (b1.1 h)
            have hd : decide (((c.toNat : Nat) : Int) > 1) = true := by rw [decide_eq_true_eq]; omega
            rw [hd, if_pos rfl, if_neg c0, if_neg c1]
      · rw [if_neg t1, if_neg t1, sheetpileref19_changes.j1, if_pos rfl]
theorem ref19_changes_f (s : List UInt8) (hs : s.length ≤ 1000000) (k : Nat) (hk : 2 * s.length + 12 ≤ k) : sheetpileref19_changes.f k (bs s) = some (match parseL s with | some cs => (cs, true) | none => ([], false)) := by
  unfold sheetpileref19_changes.f
  have := parse_ref s.length s [] (k - 2 * s.length - 12) (Nat.le_refl _) hs (by simp; omega)
  rw [show k - 2 * s.length - 12 + 2 * s.length + 12 = k by omega] at this
  rw [this]
  cases parseL s <;> simp
theorem hasPrefix_f (l m : List UInt8) : stringslite_HasPrefix.f (bs l) (bs m) = some (l.take m.length == m) := by
  unfold stringslite_HasPrefix.f
  rw [bs_size, bs_size]
  by_cases h : (l.length : Int) ≥ (m.length : Int)
  · rw [if_pos h, if_pos (by omega), if_pos (by omega), Int.toNat_natCast, bs_extract_zero, bs_toList, bs_toList]
  · rw [if_neg h]
    have : (l.take m.length == m) = false := by
      simp only [beq_eq_false_iff_ne, ne_eq]
      intro hc
      have := congrArg List.length hc
      rw [List.length_take] at this; omega
    rw [this]
theorem cutPrefix_f (l m : List UInt8) : strings_CutPrefix.f (bs l) (bs m) = some (if l.take m.length = m then (bs (l.drop m.length), true) else (bs l, false)) := by
  unfold strings_CutPrefix.f stringslite_CutPrefix.f
  rw [hasPrefix_f, Option.bind_some]
  by_cases h : l.take m.length = m
  · have hl : m.length ≤ l.length := by
      have := congrArg List.length h
      rw [List.length_take] at this; omega
    rw [if_pos (by simpa using h), if_pos h, bs_size, bs_size, if_pos (by omega), if_pos (by omega), Int.toNat_natCast, bs_extract_end]; rfl
  · rw [if_neg (by simpa using h), if_neg h]; rfl
abbrev RR := Int × List S62 × List UInt8 × Int
def outR (r : RR) : Int × List S62 × ByteArray × Int := (r.1, r.2.1, bs r.2.2.1, r.2.2.2)
/-- What Read answers of bytes that begin with a G; r: what stands behind that. -/
def readG (r : List UInt8) : RR :=
  if r.length < 8 then (0, [], [], 4) else
  if r.length < lowN ((r.drop 4).take 4) + 12 then (0, [], [], 4) else
  if lowN ((r.drop (8 + lowN ((r.drop 4).take 4))).take 4) ≠ more 0 (71 :: r.take (8 + lowN ((r.drop 4).take 4))) then (0, [], [], 6) else
  match parseL ((r.drop 8).take (lowN ((r.drop 4).take 4))) with
  | none => (0, [], [], 5)
  | some cs => if checkL cs = 0 then (((lowN (r.take 4) : Nat) : Int), cs, r.drop (12 + lowN ((r.drop 4).take 4)), 0) else (0, [], [], 5)
def readF (l : List UInt8) : RR := if l = [] then (0, [], [], 4) else if l.take 1 = [71] then readG (l.drop 1) else (0, [], [], 5)
theorem sizes_parse : ∀ (n : Nat) (s : List UInt8) (cs : List S62), s.length ≤ n → parseL s = some cs → ∀ c ∈ cs, c.f0.size ≤ s.length := by
  intro n
  induction n with
  | zero =>
    intro s cs hs h c hc
    obtain rfl : s = [] := List.eq_nil_of_length_eq_zero (by omega)
    rw [parseL] at h
    obtain rfl := Option.some.inj h
    simp at hc
  | succ n ih =>
    intro s cs hs h c hc
    cases s with
    | nil => rw [parseL] at h; obtain rfl := Option.some.inj h; simp at hc
    | cons b m =>
      have hm : m.length ≤ n := by simpa using hs
      have h1 := takeL_len m
      have h2 := takeL_len (takeL m).2.1
      have ht : (takeL m).1.length ≤ m.length := by
        unfold takeL; split
        · simp
        · split
          · simp
          · simp only [List.length_take, List.length_drop]; omega
      rw [parseL] at h
      split at h
      · split at h
        · split at h
          · cases hp : parseL (takeL (takeL m).2.1).2.1 with
            | none => rw [hp] at h; simp at h
            | some r =>
              rw [hp] at h
              simp only [Option.map_some, Option.some.injEq] at h
              subst h
              rcases List.mem_cons.1 hc with rfl | hc
              · rw [bs_size]; simp only [List.length_cons]; omega
              · have := ih _ r (by omega) hp c hc
                simp only [List.length_cons]; omega
          · cases h
        · split at h
          · cases hp : parseL (takeL m).2.1 with
            | none => rw [hp] at h; simp at h
            | some r =>
              rw [hp] at h
              simp only [Option.map_some, Option.some.injEq] at h
              subst h
              rcases List.mem_cons.1 hc with rfl | hc
              · rw [bs_size]; simp only [List.length_cons]; omega
              · have := ih _ r (by omega) hp c hc
                simp only [List.length_cons]; omega
          · cases h
      · cases h
theorem sizes_parse2 : ∀ (n : Nat) (s : List UInt8) (cs : List S62), s.length ≤ n → parseL s = some cs → ∀ c ∈ cs, c.f0.size ≤ 65535 := by
  intro n
  induction n with
  | zero =>
    intro s cs hs h c hc
    obtain rfl : s = [] := List.eq_nil_of_length_eq_zero (by omega)
    rw [parseL] at h
    obtain rfl := Option.some.inj h
    simp at hc
  | succ n ih =>
    intro s cs hs h c hc
    cases s with
    | nil => rw [parseL] at h; obtain rfl := Option.some.inj h; simp at hc
    | cons b m =>
      have hm : m.length ≤ n := by simpa using hs
      have h1 := takeL_len m
      have h2 := takeL_len (takeL m).2.1
      have ht : (takeL m).1.length ≤ 65535 := by
        have hl := lowN_lt (m.take 2)
        have hl2 := Nat.pow_le_pow_right (n := 256) (by decide) (show (m.take 2).length ≤ 2 by rw [List.length_take]; omega)
        have h16 : (256 : Nat) ^ 2 = 65536 := by decide
        unfold takeL; split
        · simp
        · split
          · simp
          · simp only [List.length_take, List.length_drop]; omega
      rw [parseL] at h
      split at h
      · split at h
        · split at h
          · cases hp : parseL (takeL (takeL m).2.1).2.1 with
            | none => rw [hp] at h; simp at h
            | some r =>
              rw [hp] at h
              simp only [Option.map_some, Option.some.injEq] at h
              subst h
              rcases List.mem_cons.1 hc with rfl | hc
              · rw [bs_size]; exact ht
              · exact ih _ r (by omega) hp c hc
          · cases h
        · split at h
          · cases hp : parseL (takeL m).2.1 with
            | none => rw [hp] at h; simp at h
            | some r =>
              rw [hp] at h
              simp only [Option.map_some, Option.some.injEq] at h
              subst h
              rcases List.mem_cons.1 hc with rfl | hc
              · rw [bs_size]; exact ht
              · exact ih _ r (by omega) hp c hc
          · cases h
      · cases h
theorem pow4 : (256 : Nat) ^ 4 = 4294967296 := by decide
theorem low4 (l : List UInt8) : lowN (l.take 4) < 4294967296 := by
  have h := lowN_lt (l.take 4)
  have h2 := Nat.pow_le_pow_right (n := 256) (by decide) (show (l.take 4).length ≤ 4 by rw [List.length_take]; omega)
  have := pow4; omega
theorem cut4 (l : List UInt8) : cutL l 4 = if l.length < 4 then (0, [], 4) else (((lowN (l.take 4) : Nat) : Int), l.drop 4, 0) := by
  by_cases h : l.length < 4
  · rw [if_pos h]; unfold cutL; rw [if_neg (by omega), if_pos (by omega)]
  · rw [if_neg h]; exact cutL_ok (s := 4) (by decide) (by decide) (by omega)
theorem readJ (k : Nat) (hk : 140 ≤ k) (r : List UInt8) (hl : r.length ≤ 7000000) (h8 : ¬ r.length < 8) :
    frame_Read.j0 (k + 1) (bs (71 :: r)) (bs (r.drop 8)) ((lowN (r.take 4) : Nat) : Int) ((lowN ((r.drop 4).take 4) : Nat) : Int) (decide (((bs (r.drop 8)).size : Int) < wrap64 (((lowN ((r.drop 4).take 4) : Nat) : Int) + 4))) = some (outR (readG r)) := by
  have hn := low4 (r.drop 4)
  unfold readG
  rw [if_neg h8]
  generalize lowN ((r.drop 4).take 4) = n at *
  rw [wrap_id (a := (n : Int) + 4) (by omega) (by omega), bs_size, List.length_drop, frame_Read.j0]
  by_cases hc : r.length < n + 12
  · rw [if_pos (by simp; omega), if_pos hc]; rfl
  · rw [if_neg (by simp; omega), if_neg hc, if_pos (by omega), bs_size, List.length_drop, if_pos (by omega), Int.toNat_natCast]
    have e1 : (bs (r.drop 8)).extract n (r.length - 8) = bs (r.drop (8 + n)) := by
      have := bs_extract_end (r.drop 8) n
      rw [List.length_drop, List.drop_drop] at this
      exact this
    have e2 : (bs (71 :: r)).extract 0 (9 + n) = bs (71 :: r.take (8 + n)) := by
      rw [bs_extract_zero, show 9 + n = (8 + n) + 1 by omega, List.take_succ_cons]
    have e3 : (bs (r.drop 8)).extract 0 n = bs ((r.drop 8).take n) := bs_extract_zero _ _
    have hcut : cutL (r.drop (8 + n)) 4 = (((lowN ((r.drop (8 + n)).take 4) : Nat) : Int), (r.drop (8 + n)).drop 4, 0) := by rw [cut4, if_neg (by rw [List.length_drop]; omega)]
    rw [e1, wire_Cut_f _ _ (by rw [List.length_drop]; omega), Option.bind_some, hcut]
    simp only []
    have hw : wrap64 (9 + (n : Int)) = ((9 + n : Nat) : Int) := by rw [wrap_id (by omega) (by omega)]; omega
    have hsz : (bs (71 :: r)).size = r.length + 1 := by rw [bs_size]; rfl
    rw [hw, if_pos (by omega), hsz, if_pos (by omega), Int.toNat_natCast, e2, PureC.crc_Sum_f _ (by rw [bs_size, List.length_cons, List.length_take]; omega), Option.bind_some, bs_data, e3]
    have hm := more_lt (s := 0) (by decide) (71 :: r.take (8 + n))
    rw [wrap_id (a := ((more 0 (71 :: r.take (8 + n)) : Nat) : Int)) (by omega) (by omega)]
    by_cases hs : lowN ((r.drop (8 + n)).take 4) = more 0 (71 :: r.take (8 + n))
    · rw [if_pos (by rw [hs]), if_neg (by simpa using hs)]
      obtain ⟨g1, g2⟩ := frame_changes_f ((r.drop 8).take n) (by rw [List.length_take, List.length_drop]; omega)
      cases hp : parseL ((r.drop 8).take n) with
      | none =>
        obtain ⟨l, hl2⟩ := g2 hp
        rw [hl2, Option.bind_some, if_neg (by simp)]; rfl
      | some cs =>
        rw [g1 cs hp, Option.bind_some, if_pos rfl]
        have hz := sizes_parse2 _ _ cs (Nat.le_refl _) hp
        rw [frame_Check_f k hk cs (fun c hc => by have := hz c hc; omega), Option.bind_some]
        by_cases h0 : checkL cs = 0
        · simp only [h0, if_true]
          unfold outR
          simp only [List.drop_drop]
          rw [show 8 + n + 4 = 12 + n by omega]
        · simp only [h0, if_false]; rfl
    · rw [if_neg (by omega), if_pos (by simpa using hs)]; rfl
theorem frame_Read_f (k : Nat) (hk : 141 ≤ k) (l : List UInt8) (hl : l.length ≤ 7000000) : frame_Read.f k (bs l) = some (outR (readF l)) := by
  obtain ⟨k, rfl⟩ : ∃ m, k = m + 1 := ⟨k - 1, by omega⟩
  unfold frame_Read.f readF
  rw [show (⟨#[71]⟩ : ByteArray) = bs [71] from rfl, cutPrefix_f, Option.bind_some, bs_toList]
  by_cases h0 : l = []
  · rw [if_pos h0, if_pos h0]; rfl
  · rw [if_neg h0, if_neg h0]
    by_cases hp : l.take 1 = [71]
    · have hr : l = 71 :: l.drop 1 := by
        cases l with
        | nil => exact absurd rfl h0
        | cons c m => simp at hp; rw [hp]; rfl
      have e : (if l.take ([71] : List UInt8).length = [71] then (bs (l.drop ([71] : List UInt8).length), true) else (bs l, false)) = (bs (l.drop 1), true) := if_pos hp
      rw [e, if_pos hp, if_pos rfl]
      generalize l.drop 1 = r at *
      subst hr
      have hrl : r.length ≤ 7000000 := by simp at hl; omega
      simp only []
      rw [wire_Cut_f r 4 (by omega), Option.bind_some, cut4]
      by_cases h4 : r.length < 4
      · rw [if_pos h4]
        simp only []
        rw [wire_Cut_f [] 4 (by simp), Option.bind_some, show cutL [] 4 = (0, [], 4) from rfl, if_neg (by decide), frame_Read.j0, if_pos rfl]
        unfold readG
        rw [if_pos (by omega)]; rfl
      · rw [if_neg h4]
        simp only []
        rw [wire_Cut_f _ 4 (by rw [List.length_drop]; omega), Option.bind_some, cut4]
        by_cases h8 : (r.drop 4).length < 4
        · rw [if_pos h8]
          simp only []
          rw [if_neg (by unfold mx; decide), frame_Read.j0, if_pos rfl]
          unfold readG
          rw [List.length_drop] at h8
          rw [if_pos (by omega)]; rfl
        · rw [if_neg h8]
          simp only [List.drop_drop]
          rw [if_pos (by unfold mx; decide)]
          rw [List.length_drop] at h8
          exact readJ k (by omega) r hrl (by omega)
    · have e : (if l.take ([71] : List UInt8).length = [71] then (bs (l.drop ([71] : List UInt8).length), true) else (bs l, false)) = (bs l, false) := if_neg hp
      rw [e, if_neg hp, if_neg Bool.false_ne_true]; rfl
theorem rreadJ (k : Nat) (r : List UInt8) (hl : r.length ≤ 900000) (hk : 10 * r.length + 200 ≤ k) (h8 : ¬ r.length < 8) :
    sheetpileref19_Read.j0 (k + 1) (bs (71 :: r)) ((lowN (r.take 4) : Nat) : Int) (bs (r.drop 8)) ((lowN ((r.drop 4).take 4) : Nat) : Int) (decide (((bs (r.drop 8)).size : Int) < wrap64 (((lowN ((r.drop 4).take 4) : Nat) : Int) + 4))) = some (outR (readG r)) := by
  have hn := low4 (r.drop 4)
  unfold readG
  rw [if_neg h8]
  generalize lowN ((r.drop 4).take 4) = n at *
  rw [wrap_id (a := (n : Int) + 4) (by omega) (by omega), bs_size, List.length_drop, sheetpileref19_Read.j0]
  by_cases hc : r.length < n + 12
  · rw [if_pos (by simp; omega), if_pos hc]; rfl
  · rw [if_neg (by simp; omega), if_neg hc, if_pos (by omega), bs_size, List.length_drop, if_pos (by omega), Int.toNat_natCast]
    have e1 : (bs (r.drop 8)).extract n (r.length - 8) = bs (r.drop (8 + n)) := by
      have := bs_extract_end (r.drop 8) n
      rw [List.length_drop, List.drop_drop] at this
      exact this
    have e2 : (bs (71 :: r)).extract 0 (9 + n) = bs (71 :: r.take (8 + n)) := by
      rw [bs_extract_zero, show 9 + n = (8 + n) + 1 by omega, List.take_succ_cons]
    have e3 : (bs (r.drop 8)).extract 0 n = bs ((r.drop 8).take n) := bs_extract_zero _ _
    have hcut : cutL (r.drop (8 + n)) 4 = (((lowN ((r.drop (8 + n)).take 4) : Nat) : Int), (r.drop (8 + n)).drop 4, 0) := by rw [cut4, if_neg (by rw [List.length_drop]; omega)]
    rw [e1, ref_Cut_f k (by omega) _ 4 (by rw [List.length_drop]; omega) (by decide) (by decide), Option.bind_some, hcut]
    simp only []
    have hw : wrap64 (9 + (n : Int)) = ((9 + n : Nat) : Int) := by rw [wrap_id (by omega) (by omega)]; omega
    have hsz : (bs (71 :: r)).size = r.length + 1 := by rw [bs_size]; rfl
    rw [hw, if_pos (by omega), hsz, if_pos (by omega), Int.toNat_natCast, e2, PureC.ref_Sum_f _ (by rw [bs_size, List.length_cons, List.length_take]; omega) k (by rw [bs_size, List.length_cons, List.length_take]; omega), Option.bind_some, bs_data, e3]
    have hm := more_lt (s := 0) (by decide) (71 :: r.take (8 + n))
    rw [wrap_id (a := ((more 0 (71 :: r.take (8 + n)) : Nat) : Int)) (by omega) (by omega)]
    by_cases hs : lowN ((r.drop (8 + n)).take 4) = more 0 (71 :: r.take (8 + n))
    · rw [if_pos (by rw [hs]), if_neg (by simpa using hs)]
      rw [ref19_changes_f ((r.drop 8).take n) (by rw [List.length_take, List.length_drop]; omega) k (by rw [List.length_take, List.length_drop]; omega), Option.bind_some]
      cases hp : parseL ((r.drop 8).take n) with
      | none => simp only []; rw [if_neg (by decide)]; rfl
      | some cs =>
        simp only []
        rw [if_pos trivial]
        have hz := sizes_parse _ _ cs (Nat.le_refl _) hp
        rw [ref19_Check_f r.length (by omega) k (by omega) cs (fun c hc => by have := hz c hc; rw [List.length_take, List.length_drop] at this; omega), Option.bind_some]
        by_cases h0 : checkL cs = 0
        · simp only [h0, if_true]
          unfold outR
          simp only [List.drop_drop]
          rw [show 8 + n + 4 = 12 + n by omega]
        · simp only [h0, if_false]; rfl
    · rw [if_neg (by omega), if_pos (by simpa using hs)]; rfl
theorem ref19_Read_f (l : List UInt8) (hl : l.length ≤ 900000) (k : Nat) (hk : 10 * l.length + 202 ≤ k) : sheetpileref19_Read.f k (bs l) = some (outR (readF l)) := by
  obtain ⟨k, rfl⟩ : ∃ m, k = m + 1 := ⟨k - 1, by omega⟩
  unfold sheetpileref19_Read.f readF
  rw [bs_toList, bs_size]
  by_cases h0 : l = []
  · rw [if_pos h0, if_pos h0]; rfl
  · cases l with
    | nil => exact absurd rfl h0
    | cons c r =>
      simp only [List.length_cons] at hl hk ⊢
      rw [if_neg h0, if_neg h0, if_pos (by omega), bt_zero]
      have b0 := byte_eq c 71 (by decide)
      rw [show ((71 : Nat) : Int) = 71 from rfl] at b0
      rw [show UInt8.ofNat 71 = 71 from rfl] at b0
      by_cases hp : c = 71
      · rw [if_pos (b0.2 hp), if_pos (by omega), if_pos (by rw [hp]; rfl)]
        have ee : (bs (c :: r)).extract 1 (r.length + 1) = bs r := by
          have := bs_extract_end (c :: r) 1
          simpa using this
        subst hp
        rw [ee, ref_Cut_f (k + 1) (by omega) r 4 (by omega) (by decide) (by decide), Option.bind_some, cut4]
        show _ = some (outR (readG r))
        by_cases h4 : r.length < 4
        · rw [if_pos h4]
          simp only []
          rw [ref_Cut_f (k + 1) (by omega) [] 4 (by simp) (by decide) (by decide), Option.bind_some, show cutL [] 4 = (0, [], 4) from rfl, if_neg (by decide), sheetpileref19_Read.j0, if_pos rfl]
          unfold readG
          rw [if_pos (by omega)]; rfl
        · rw [if_neg h4]
          simp only []
          rw [ref_Cut_f (k + 1) (by omega) _ 4 (by rw [List.length_drop]; omega) (by decide) (by decide), Option.bind_some, cut4, if_pos trivial]
          by_cases h8 : (r.drop 4).length < 4
          · rw [if_pos h8]
            simp only []
            rw [if_neg (by decide), sheetpileref19_Read.j0, if_pos rfl]
            unfold readG
            rw [List.length_drop] at h8
            rw [if_pos (by omega)]; rfl
          · rw [if_neg h8]
            simp only [List.drop_drop]
            rw [if_pos trivial]
            rw [List.length_drop] at h8
            exact rreadJ k r (by omega) (by omega) (by omega)
      · rw [if_neg (fun h => hp (b0.1 h)), if_neg (by simp; exact hp)]; rfl
theorem changes_same (l : List S62) (d : Nat) : ∀ (k i : Nat), i + d = l.length → l.length ≤ 10000000 → sheetpileref19_Changes.l0 (k + d + 1) l l (i : Int) = some true := by
  induction d with
  | zero => intro k i hi hl; rw [sheetpileref19_Changes.l0, if_neg (by omega)]
  | succ d ih =>
    intro k i hi hl
    have hx : wrap64 ((i : Int) + 1) = ((i + 1 : Nat) : Int) := by rw [wrap_id (by omega) (by omega)]; omega
    rw [show k + (d + 1) + 1 = (k + d + 1) + 1 by omega, sheetpileref19_Changes.l0, if_pos (by omega), if_pos (by omega), if_pos (by omega), if_neg (by simp), hx]
    exact ih k (i + 1) (by omega) hl
theorem ref19_Changes_same (l : List S62) (hl : l.length ≤ 10000000) (k : Nat) (hk : l.length + 1 ≤ k) : sheetpileref19_Changes.f k l l = some true := by
  unfold sheetpileref19_Changes.f
  rw [if_pos rfl]
  have := changes_same l l.length (k - l.length - 1) 0 (by omega) hl
  rw [show k - l.length - 1 + l.length + 1 = k by omega] at this
  exact this
/-- A text's bytes, its length ahead. -/
def txL (a : ByteArray) : List UInt8 := lowB 2 a.size ++ a.data.toList
def bodyL (l : List S62) : List UInt8 := chsB txL l
def headL (seq : Nat) (l : List S62) : List UInt8 := 71 :: (lowB 4 seq ++ (lowB 4 (bodyL l).length ++ bodyL l))
/-- A group's bytes. -/
def frameL (seq : Nat) (l : List S62) : List UInt8 := headL seq l ++ lowB 4 (more 0 (headL seq l))
def writeL (seq : Int) (l : List S62) : List UInt8 × Int := if checkL l = 0 then (if 0 ≤ seq ∧ seq < 4294967296 then (frameL seq.toNat l, 0) else ([], 1)) else ([], checkL l)
theorem checkL_len {l : List S62} (h : checkL l = 0) : l.length ≤ 64 := by
  unfold checkL at h
  split at h
  · simp at h
  · omega
theorem txK_eq (K : Nat) (hK : 10 ≤ K) (a : ByteArray) (h : a.size ≤ 65535) : frame_text.f K a = some (bs (txL a)) ∧ txK K a = txL a := by
  have h1 : frame_text.f K a = some (bs (txL a)) := by
    unfold frame_text.f
    have := wire_Text_f K hK a.data.toList (by rw [data_length]; omega)
    rw [← bs_of, textL_ok (by rw [data_length]; omega)] at this
    rw [this, Option.bind_some]
    simp only [data_length]
    rfl
  refine ⟨h1, ?_⟩
  unfold txK
  rw [h1, Option.getD_some, bs_data]
theorem chsB_congr (f g : ByteArray → List UInt8) (l : List S62) (h : ∀ c ∈ l, f c.f0 = g c.f0 ∧ f c.f1 = g c.f1) : chsB f l = chsB g l := by
  induction l with
  | nil => rfl
  | cons c l ih =>
    have h1 := h c List.mem_cons_self
    have h2 := ih (fun c hc => h c (List.mem_cons_of_mem _ hc))
    unfold chsB at h2 ⊢
    rw [List.flatMap_cons, List.flatMap_cons, h2]
    unfold chB
    rw [h1.1, h1.2]
theorem txL_len (a : ByteArray) : (txL a).length = a.size + 2 := by unfold txL; rw [List.length_append, lowB_length, data_length]; omega
theorem bodyL_len (l : List S62) (h : ∀ c ∈ l, c.f0.size ≤ 65535 ∧ c.f1.size ≤ 65535) : (bodyL l).length ≤ 131081 * l.length :=
  chsB_len txL l (fun c hc => by have := h c hc; rw [txL_len, txL_len]; omega)
theorem writeF_f (K : Nat) (hK : 140 ≤ K) (seq : Int) (l : List S62) (h0 : -9223372036854775808 ≤ seq) (h1 : seq < 9223372036854775808) (hs : ∀ c ∈ l, c.f0.size ≤ 65535 ∧ c.f1.size ≤ 65535) :
    writeF K seq l = some (bs (writeL seq l).1, (writeL seq l).2) := by
  unfold writeF writeL
  rw [frame_Check_f K hK l (fun c hc => by have := hs c hc; omega), Option.bind_some]
  by_cases hc : checkL l = 0
  · have hlen := checkL_len hc
    have hb := bodyL_len l hs
    rw [if_pos hc, if_pos hc, wire_Put_f K (by omega) seq 4 h0 h1, Option.bind_some]
    by_cases hq : 0 ≤ seq ∧ seq < 4294967296
    · obtain ⟨n, rfl⟩ := Int.eq_ofNat_of_zero_le hq.1
      have hp : putL (n : Int) 4 = (lowB 4 n, 0) := putL_ok (s := 4) (by decide) (by decide) (by rw [pow4]; omega)
      have hck : chsB (txK K) l = bodyL l := chsB_congr _ _ l (fun c hc => by have := hs c hc; exact ⟨(txK_eq K (by omega) c.f0 (by omega)).2, (txK_eq K (by omega) c.f1 (by omega)).2⟩)
      have hok : l.all (okC K) = true := by
        rw [List.all_eq_true]
        intro c hc
        have hz := hs c hc
        obtain ⟨a1, a2⟩ := txK_eq K (by omega) c.f0 (by omega)
        obtain ⟨b1, b2⟩ := txK_eq K (by omega) c.f1 (by omega)
        unfold okC
        rw [a1, b1, a2, b2, txL_len, txL_len]
        simp; omega
      rw [hp, hck]
      simp only [if_true]
      rw [if_pos hq, if_pos ⟨by omega, hok, by rw [bs_size, lowB_length]; decide⟩]
      have hp2 : putL ((bodyL l).length : Int) 4 = (lowB 4 (bodyL l).length, 0) := putL_ok (s := 4) (by decide) (by decide) (by rw [pow4]; omega)
      rw [wire_Put_f K (by omega) _ 4 (by omega) (by omega), Option.bind_some, hp2]
      simp only [bs_append]
      have hh : [71] ++ lowB 4 n ++ lowB 4 (bodyL l).length ++ bodyL l = headL n l := by unfold headL; simp
      have hhl : (headL n l).length ≤ 10000000 := by unfold headL; simp only [List.length_cons, List.length_append, lowB_length]; omega
      rw [hh, PureC.crc_Sum_f _ (by rw [bs_size]; omega), Option.bind_some, bs_data]
      have hm := more_lt (s := 0) (by decide) (headL n l)
      rw [wrap_id (by omega) (by omega), wire_Put_f K (by omega) _ 4 (by omega) (by omega), Option.bind_some]
      have hp3 : putL ((more 0 (headL n l) : Nat) : Int) 4 = (lowB 4 (more 0 (headL n l)), 0) := putL_ok (s := 4) (by decide) (by decide) (by rw [pow4]; omega)
      rw [hp3]
      simp only [bs_size, lowB_length]
      rw [if_pos ⟨by decide, by decide⟩, bs_append]
      rfl
    · have hp : (putL seq 4).2 ≠ 0 := by
        intro h
        unfold putL at h
        split at h
        · simp at h
        · rename_i hx
          split at h
          · simp at h
          · rename_i hb2
            have h4 : (256 : Nat) ^ (4 : Int).toNat = 4294967296 := by decide
            rw [h4] at hb2
            have : seq.toNat < 4294967296 := by
              rcases Nat.lt_or_ge seq.toNat 4294967296 with hlt | hge
              · exact hlt
              · exact absurd (Nat.div_pos hge (by decide)) hb2
            omega
      simp only [hp, if_false]
      rw [if_neg hq]; rfl
  · rw [if_neg hc, if_neg hc]; rfl
theorem frame_Write_f (seq : Int) (l : List S62) (h0 : -9223372036854775808 ≤ seq) (h1 : seq < 9223372036854775808) (hs : ∀ c ∈ l, c.f0.size ≤ 65535 ∧ c.f1.size ≤ 65535) :
    frame_Write.f seq l = some (bs (writeL seq l).1, (writeL seq l).2) := writeF_f 400 (by decide) seq l h0 h1 hs
theorem checkAll_mem : ∀ (l : List S62), checkAll l = 0 → ∀ c ∈ l, checkC c = 0
  | [], _, c, hc => by simp at hc
  | d :: l, h, c, hc => by
    rw [checkAll_cons] at h
    by_cases h0 : checkC d = 0
    · rw [if_pos h0] at h
      rcases List.mem_cons.1 hc with rfl | hc
      · exact h0
      · exact checkAll_mem l h c hc
    · rw [if_neg h0] at h; exact absurd h h0
theorem checkL_all {l : List S62} (h : checkL l = 0) : checkAll l = 0 ∧ l ≠ [] := by
  unfold checkL at h
  split at h
  · simp at h
  · split at h
    · split at h
      · simp at h
      · exact ⟨by assumption, by assumption⟩
    · exact absurd h (by assumption)
theorem checkL_mem {l : List S62} (h : checkL l = 0) : ∀ c ∈ l, checkC c = 0 := checkAll_mem l (checkL_all h).1
theorem empty_of {a : ByteArray} (h : a.toList = []) : a = ⟨#[]⟩ := by
  rw [bs_of a]; rw [toList_nil] at h; rw [h]; rfl
theorem checkC_ok {c : S62} (h : checkC c = 0) : c.f1.size ≤ 1024 ∧ (c.f2 = true → c.f1 = ⟨#[]⟩) := by
  unfold checkC at h
  split at h
  · split at h
    · simp at h
    · rename_i h1
      refine ⟨by omega, fun h2 => ?_⟩
      rw [if_pos h2] at h
      split at h
      · exact empty_of (by assumption)
      · simp at h
  · exact absurd h (by assumption)
/-- Changes as they are written: a text has fewer than 65536 bytes, what is gone has no value. -/
def NormL (l : List S62) : Prop := ∀ c ∈ l, c.f0.size ≤ 65535 ∧ c.f1.size ≤ 65535 ∧ (c.f2 = true → c.f1 = ⟨#[]⟩)
theorem normL_of {l : List S62} (h : checkL l = 0) (hs : ∀ c ∈ l, c.f0.size ≤ 65535) : NormL l := fun c hc => by
  have := checkC_ok (checkL_mem h c hc)
  exact ⟨hs c hc, by omega, this.2⟩
theorem takeL_tx (a : ByteArray) (m : List UInt8) (h : a.size ≤ 65535) : takeL (txL a ++ m) = (a.data.toList, m, 0) := by
  unfold txL
  have := takeL_text a.data.toList m (by rw [data_length]; omega)
  rw [data_length] at this
  exact this
theorem bodyL_cons (c : S62) (l : List S62) : bodyL (c :: l) = chB txL c ++ bodyL l := rfl
theorem parse_body : ∀ (l : List S62), NormL l → parseL (bodyL l) = some l
  | [], _ => by show parseL [] = _; rw [parseL]
  | c :: l, h => by
    have h1 := h c List.mem_cons_self
    have h2 := parse_body l (fun c hc => h c (List.mem_cons_of_mem _ hc))
    rw [bodyL_cons]
    obtain ⟨f0, f1, f2⟩ := c
    cases f2 with
    | true =>
      obtain rfl : f1 = ⟨#[]⟩ := h1.2.2 rfl
      show parseL ((1 :: txL f0) ++ bodyL l) = _
      rw [List.cons_append, parseL, takeL_tx f0 _ h1.1]
      simp only [if_true]
      rw [if_neg (by decide), h2, ← bs_of]; rfl
    | false =>
      show parseL ((0 :: (txL f0 ++ txL f1)) ++ bodyL l) = _
      rw [List.cons_append, List.append_assoc, parseL, takeL_tx f0 _ h1.1]
      simp only [if_true]
      rw [takeL_tx f1 _ h1.2.1]
      simp only [if_true]
      rw [h2, ← bs_of, ← bs_of]; rfl
theorem tx_of {m a b : List UInt8} (h : takeL m = (a, b, 0)) : m = txL (bs a) ++ b ∧ (bs a).size ≤ 65535 := by
  obtain ⟨h1, h2⟩ := takeL_back h
  refine ⟨?_, by rw [bs_size]; omega⟩
  unfold txL
  rw [bs_size, bs_data]; exact h1
theorem takeL_ok {m : List UInt8} (h : (takeL m).2.2 = 0) : takeL m = ((takeL m).1, (takeL m).2.1, 0) := by rw [← h]
theorem parse_back : ∀ (n : Nat) (s : List UInt8) (cs : List S62), s.length ≤ n → parseL s = some cs → s = bodyL cs ∧ NormL cs := by
  intro n
  induction n with
  | zero =>
    intro s cs hs h
    obtain rfl : s = [] := List.eq_nil_of_length_eq_zero (by omega)
    rw [parseL] at h
    obtain rfl := Option.some.inj h
    exact ⟨rfl, fun c hc => by simp at hc⟩
  | succ n ih =>
    intro s cs hs h
    cases s with
    | nil => rw [parseL] at h; obtain rfl := Option.some.inj h; exact ⟨rfl, fun c hc => by simp at hc⟩
    | cons b m =>
      have hm : m.length ≤ n := by simpa using hs
      have h1 := takeL_len m
      have h2 := takeL_len (takeL m).2.1
      rw [parseL] at h
      split at h
      · rename_i t1
        obtain ⟨e1, z1⟩ := tx_of (takeL_ok t1)
        split at h
        · rename_i b0
          split at h
          · rename_i t2
            obtain ⟨e2, z2⟩ := tx_of (takeL_ok t2)
            cases hp : parseL (takeL (takeL m).2.1).2.1 with
            | none => rw [hp] at h; simp at h
            | some r =>
              rw [hp] at h
              simp only [Option.map_some, Option.some.injEq] at h
              subst h
              obtain ⟨e3, z3⟩ := ih _ r (by omega) hp
              refine ⟨?_, ?_⟩
              · rw [bodyL_cons, ← e3, b0]
                show 0 :: m = 0 :: (txL _ ++ txL _) ++ _
                rw [List.cons_append, List.append_assoc]
                congr 1
                exact e1.trans (congrArg (txL (bs (takeL m).1) ++ ·) e2)
              · intro c hc
                rcases List.mem_cons.1 hc with rfl | hc
                · exact ⟨z1, z2, fun hx => by cases hx⟩
                · exact z3 c hc
          · cases h
        · split at h
          · rename_i b1
            cases hp : parseL (takeL m).2.1 with
            | none => rw [hp] at h; simp at h
            | some r =>
              rw [hp] at h
              simp only [Option.map_some, Option.some.injEq] at h
              subst h
              obtain ⟨e3, z3⟩ := ih _ r (by omega) hp
              refine ⟨?_, ?_⟩
              · rw [bodyL_cons, ← e3, b1]
                show 1 :: m = 1 :: txL _ ++ _
                rw [List.cons_append]
                congr 1
              · intro c hc
                rcases List.mem_cons.1 hc with rfl | hc
                · exact ⟨z1, by show (0 : Nat) ≤ 65535; omega, fun _ => rfl⟩
                · exact z3 c hc
          · cases h
      · cases h
theorem normL_sizes {l : List S62} (h : NormL l) : ∀ c ∈ l, c.f0.size ≤ 65535 ∧ c.f1.size ≤ 65535 := fun c hc => ⟨(h c hc).1, (h c hc).2.1⟩
theorem readG_frame (seq : Nat) (l : List S62) (rest : List UInt8) (hq : seq < 4294967296) (hc : checkL l = 0) (hn : NormL l) :
    readG (lowB 4 seq ++ (lowB 4 (bodyL l).length ++ (bodyL l ++ (lowB 4 (more 0 (headL seq l)) ++ rest)))) = ((seq : Int), l, rest, 0) := by
  have hlen := checkL_len hc
  have hb := bodyL_len l (normL_sizes hn)
  have hm := more_lt (s := 0) (by decide) (headL seq l)
  have ls := lowB_length 4 seq
  have ll := lowB_length 4 (bodyL l).length
  have lm := lowB_length 4 (more 0 (headL seq l))
  have e1 : ∀ x, (lowB 4 seq ++ x).take 4 = lowB 4 seq := fun x => List.take_left' ls
  have e2 : ∀ x, (lowB 4 seq ++ x).drop 4 = x := fun x => List.drop_left' ls
  have e3 : ∀ x, (lowB 4 (bodyL l).length ++ x).take 4 = lowB 4 (bodyL l).length := fun x => List.take_left' ll
  have e4 : ∀ x, (lowB 4 (bodyL l).length ++ x).drop 4 = x := fun x => List.drop_left' ll
  have n1 := lowN_lowB_lt (s := 4) (n := seq) (by rw [pow4]; omega)
  have n2 := lowN_lowB_lt (s := 4) (n := (bodyL l).length) (by rw [pow4]; omega)
  have n3 := lowN_lowB_lt (s := 4) (n := more 0 (headL seq l)) (by rw [pow4]; omega)
  have d8 : ∀ x, (lowB 4 seq ++ (lowB 4 (bodyL l).length ++ x)).drop 8 = x := fun x => by
    rw [show 8 = 4 + 4 from rfl, ← List.drop_drop, e2, e4]
  have dn : ∀ x, (lowB 4 seq ++ (lowB 4 (bodyL l).length ++ (bodyL l ++ x))).drop (8 + (bodyL l).length) = x := fun x => by
    rw [← List.drop_drop, d8, List.drop_left]
  unfold readG
  rw [if_neg (by simp only [List.length_append, ls, ll]; omega), e2, e3, n2, if_neg (by simp only [List.length_append, ls, ll, lm]; omega), dn, List.take_left' lm, n3, d8, List.take_left, parse_body l hn, e1, n1]
  have hh : (lowB 4 seq ++ (lowB 4 (bodyL l).length ++ (bodyL l ++ (lowB 4 (more 0 (headL seq l)) ++ rest)))).take (8 + (bodyL l).length) = lowB 4 seq ++ (lowB 4 (bodyL l).length ++ bodyL l) := by
    have : lowB 4 seq ++ (lowB 4 (bodyL l).length ++ (bodyL l ++ (lowB 4 (more 0 (headL seq l)) ++ rest))) = (lowB 4 seq ++ (lowB 4 (bodyL l).length ++ bodyL l)) ++ (lowB 4 (more 0 (headL seq l)) ++ rest) := by simp only [List.append_assoc]
    rw [this, List.take_left' (by simp only [List.length_append, ls, ll]; omega)]
  rw [hh]
  have hg : 71 :: (lowB 4 seq ++ (lowB 4 (bodyL l).length ++ bodyL l)) = headL seq l := rfl
  rw [hg, if_neg (by simp)]
  simp only [hc, if_true]
  rw [show 12 + (bodyL l).length = 8 + (bodyL l).length + 4 by omega, ← List.drop_drop, dn, List.drop_left' lm]
theorem frame_app (seq : Nat) (l : List S62) (rest : List UInt8) : frameL seq l ++ rest = 71 :: (lowB 4 seq ++ (lowB 4 (bodyL l).length ++ (bodyL l ++ (lowB 4 (more 0 (headL seq l)) ++ rest)))) := by
  unfold frameL
  conv => lhs; rw [show headL seq l = 71 :: (lowB 4 seq ++ (lowB 4 (bodyL l).length ++ bodyL l)) from rfl]
  simp only [List.cons_append, List.append_assoc]
  rfl
theorem readF_frame (seq : Nat) (l : List S62) (rest : List UInt8) (hq : seq < 4294967296) (hc : checkL l = 0) (hn : NormL l) : readF (frameL seq l ++ rest) = ((seq : Int), l, rest, 0) := by
  rw [frame_app]
  unfold readF
  rw [if_neg (by simp), if_pos (by rfl)]
  exact readG_frame seq l rest hq hc hn
theorem frameL_length (seq : Nat) (l : List S62) : (frameL seq l).length = (bodyL l).length + 13 := by
  unfold frameL headL
  simp only [List.length_append, List.length_cons, lowB_length]; omega
theorem readF_cut (seq : Nat) (l : List S62) (n : Nat) (hb : (bodyL l).length < 4294967296) (hn : n < (frameL seq l).length) : readF ((frameL seq l).take n) = (0, [], [], 4) := by
  rw [frameL_length] at hn
  cases n with
  | zero => rfl
  | succ n =>
    have hf : frameL seq l = 71 :: (lowB 4 seq ++ (lowB 4 (bodyL l).length ++ (bodyL l ++ lowB 4 (more 0 (headL seq l))))) := by
      have := frame_app seq l []
      simpa using this
    have hh : (frameL seq l).take (n + 1) = 71 :: (lowB 4 seq ++ (lowB 4 (bodyL l).length ++ (bodyL l ++ lowB 4 (more 0 (headL seq l))))).take n := by
      rw [hf, List.take_succ_cons]
    have hl : (lowB 4 seq ++ (lowB 4 (bodyL l).length ++ (bodyL l ++ lowB 4 (more 0 (headL seq l))))).length = (bodyL l).length + 12 := by
      simp only [List.length_append, lowB_length]; omega
    rw [hh]
    unfold readF
    rw [if_neg (by simp), if_pos (by rfl), List.drop_succ_cons, List.drop_zero]
    unfold readG
    rw [List.length_take, hl]
    by_cases h8 : n < 8
    · rw [if_pos (by omega)]
    · rw [if_neg (by omega)]
      have e : (((lowB 4 seq ++ (lowB 4 (bodyL l).length ++ (bodyL l ++ lowB 4 (more 0 (headL seq l))))).take n).drop 4).take 4 = lowB 4 (bodyL l).length := by
        rw [List.drop_take, List.drop_left' (lowB_length 4 seq), List.take_take, Nat.min_eq_left (by omega), List.take_left' (lowB_length 4 _)]
      rw [e, lowN_lowB_lt (by rw [pow4]; omega), if_pos (by omega)]
theorem readG_back {r : List UInt8} {q : Int} {cs : List S62} {left : List UInt8} (h : readG r = (q, cs, left, 0)) :
    ∃ seq : Nat, q = seq ∧ seq < 4294967296 ∧ checkL cs = 0 ∧ NormL cs ∧ 71 :: r = frameL seq cs ++ left := by
  unfold readG at h
  have hn := low4 (r.drop 4)
  have h4 := low4 r
  split at h
  · simp at h
  · rename_i h8
    split at h
    · simp at h
    · rename_i hN
      split at h
      · simp at h
      · rename_i hs
        have hs := Classical.not_not.1 hs
        cases hp : parseL ((r.drop 8).take (lowN ((r.drop 4).take 4))) with
        | none => rw [hp] at h; simp at h
        | some c =>
          rw [hp] at h
          simp only [] at h
          split at h
          · rename_i hc
            simp only [Prod.mk.injEq, and_true] at h
            obtain ⟨rfl, rfl, rfl⟩ := h
            obtain ⟨e1, z1⟩ := parse_back _ _ _ (Nat.le_refl _) hp
            refine ⟨lowN (r.take 4), rfl, h4, hc, z1, ?_⟩
            generalize hnn : lowN ((r.drop 4).take 4) = n at *
            have hbl : (bodyL c).length = n := by rw [← e1, List.length_take, List.length_drop]; omega
            have b1 : lowB 4 (lowN (r.take 4)) = r.take 4 := by
              have := lowB_lowN (r.take 4)
              rwa [show (r.take 4).length = 4 by rw [List.length_take]; omega] at this
            have b2 : lowB 4 n = (r.drop 4).take 4 := by
              have := lowB_lowN ((r.drop 4).take 4)
              rwa [show ((r.drop 4).take 4).length = 4 by rw [List.length_take, List.length_drop]; omega, hnn] at this
            have b3 : lowB 4 (lowN ((r.drop (8 + n)).take 4)) = (r.drop (8 + n)).take 4 := by
              have := lowB_lowN ((r.drop (8 + n)).take 4)
              rwa [show ((r.drop (8 + n)).take 4).length = 4 by rw [List.length_take, List.length_drop]; omega] at this
            have t8 : r.take (8 + n) = r.take 4 ++ ((r.drop 4).take 4 ++ (r.drop 8).take n) := by
              rw [show 8 + n = 4 + (4 + n) by omega, List.take_add, List.take_add, List.drop_drop]
            have hh : headL (lowN (r.take 4)) c = 71 :: r.take (8 + n) := by
              unfold headL
              rw [b1, hbl, b2, ← e1, t8]
            have hf : frameL (lowN (r.take 4)) c = 71 :: r.take (8 + n) ++ (r.drop (8 + n)).take 4 := by
              unfold frameL
              rw [hh, ← hs, b3]
            rw [hf, List.cons_append, List.cons_append, List.append_assoc, show 12 + n = 8 + n + 4 by omega, ← List.drop_drop (i := 4) (j := 8 + n), List.take_append_drop, List.take_append_drop]
          · simp at h
theorem readF_back {l : List UInt8} {q : Int} {cs : List S62} {left : List UInt8} (h : readF l = (q, cs, left, 0)) :
    ∃ seq : Nat, q = seq ∧ seq < 4294967296 ∧ checkL cs = 0 ∧ NormL cs ∧ l = frameL seq cs ++ left := by
  unfold readF at h
  split at h
  · simp at h
  · rename_i h0
    split at h
    · rename_i hp
      have hr : l = 71 :: l.drop 1 := by
        cases l with
        | nil => exact absurd rfl h0
        | cons c m => simp at hp; rw [hp]; rfl
      obtain ⟨seq, h1, h2, h3, h4, h5⟩ := readG_back h
      exact ⟨seq, h1, h2, h3, h4, hr.trans h5⟩
    · simp at h
theorem readG_err (r : List UInt8) : (readG r).2.2.2 = 0 ∨ ((readG r).2.1 = [] ∧ (readG r).2.2.1 = [] ∧ (readG r).1 = 0) := by
  unfold readG
  split
  · exact .inr ⟨rfl, rfl, rfl⟩
  · split
    · exact .inr ⟨rfl, rfl, rfl⟩
    · split
      · exact .inr ⟨rfl, rfl, rfl⟩
      · split
        · exact .inr ⟨rfl, rfl, rfl⟩
        · split
          · exact .inl rfl
          · exact .inr ⟨rfl, rfl, rfl⟩
theorem readF_err (l : List UInt8) : (readF l).2.2.2 = 0 ∨ ((readF l).2.1 = [] ∧ (readF l).2.2.1 = [] ∧ (readF l).1 = 0) := by
  unfold readF
  split
  · exact .inr ⟨rfl, rfl, rfl⟩
  · split
    · exact readG_err _
    · exact .inr ⟨rfl, rfl, rfl⟩
end Go.Proofs.Ytcgbjkjacpeheaa.Pure
