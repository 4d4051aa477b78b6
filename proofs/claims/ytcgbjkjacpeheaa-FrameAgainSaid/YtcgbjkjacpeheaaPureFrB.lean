/- Frames in lists of bytes: what a group's Check, Write, Read and the reference's answer. -/
import Derived.Test.YtcgbjkjacpeheaaPFrx2
import Derived.Test.YtcgbjkjacpeheaaPFrx10
import Derived.Test.YtcgbjkjacpeheaaPFrx5
import Derived.Test.YtcgbjkjacpeheaaPFrx6
import Derived.Test.YtcgbjkjacpeheaaPFrx7
import Derived.Test.YtcgbjkjacpeheaaPFrx9
import Derived.Test.YtcgbjkjacpeheaaPureFrA
import Derived.Test.YtcgbjkjacpeheaaPureFrK
import Derived.Test.YtcgbjkjacpeheaaPureFrC
import Derived.Test.YtcgbjkjacpeheaaFrWrite
import Derived.Test.YtcgbjkjacpeheaaFrChanges
namespace Go.Proofs.Ytcgbjkjacpeheaa.Pure
set_option linter.unusedVariables false
set_option linter.unusedSimpArgs false
open Go.RowKit Go.Proofs.Ytcgbjkjacpeheaa.PFr Go.Proofs.Ytcgbjkjacpeheaa.Given Go.Proofs.Ytcgbjkjacpeheaa.Bs Go.Proofs.Ytcgbjkjacpeheaa.WirePlain Go.Proofs.Ytcgbjkjacpeheaa.KeyPlain Go.Proofs.Ytcgbjkjacpeheaa.RunesPlain Go.Proofs.Ytcgbjkjacpeheaa.CrcPlain Go.Proofs.YtcgbjkjacpeheaaW.PrintWords Go.Proofs.YtcgbjkjacpeheaaW.PrintLast Go.Proofs.YtcgbjkjacpeheaaW.PrintMore
theorem rd_getC (l : List S62) (i : Nat) (h : i < l.length) : rd_T62 l (i : Int) = l[i] := by
  unfold rd_T62; rw [Int.toNat_natCast, List.getD_eq_getElem?_getD, List.getElem?_eq_getElem h]; rfl
theorem toList_nil (a : ByteArray) : a.toList = [] ↔ a.data.toList = [] := by rw [ByteArray.toList_eq]
def checkC (c : S62) : Int :=
  if checkR (runesR c.f0.data.toList) = 0 then (if (c.f1.size : Int) > 1024 then 12 else if c.f2 = true then (if c.f1.toList = [] then 0 else 1) else 0) else checkR (runesR c.f0.data.toList)
def checkAll : List S62 → Int
  | [] => 0
  | c :: l => if checkC c = 0 then checkAll l else checkC c
theorem checkAll_cons (c : S62) (l : List S62) : checkAll (c :: l) = if checkC c = 0 then checkAll l else checkC c := rfl
def checkL (l : List S62) : Int := if l.length > 64 then 12 else if checkAll l = 0 then (if l = [] then 1 else 0) else checkAll l
theorem check_end (l : List S62) : (if (l.length : Int) = 0 then some (1 : Int) else some 0) = some (if l = [] then 1 else 0) := by
  cases l <;> simp
  omega
theorem fcheck_loop (l : List S62) (hl : l.length ≤ 64) (hs : ∀ c ∈ l, c.f0.size ≤ 1000000) : ∀ (d k i : Nat), i + d = l.length →
    frame_Check.l0 (k + d + 71) l l (l.length : Int) (i : Int) = some (if checkAll (l.drop i) = 0 then (if l = [] then 1 else 0) else checkAll (l.drop i)) := by
  intro d
  induction d with
  | zero =>
    intro k i hi
    rw [List.drop_of_length_le (by omega), frame_Check.l0, if_neg (by omega), check_end]; rfl
  | succ d ih =>
    intro k i hi
    have hlt : i < l.length := by omega
    rw [show k + (d + 1) + 71 = (k + d + 71) + 1 by omega, frame_Check.l0, if_pos (by omega), if_pos (by omega), if_pos (by omega), rd_getC l i hlt, List.drop_eq_getElem_cons hlt]
    have hx : wrap64 ((i : Int) + 1) = ((i + 1 : Nat) : Int) := by rw [wrap_id (by omega) (by omega)]; omega
    rw [hx, ih k (i + 1) (by omega)]
    have hc := hs l[i] (List.getElem_mem hlt)
    generalize l[i] = c at *
    have hk := key_Check_f (k + d + 71) (by omega) c.f0.data.toList (by rw [data_length]; exact hc)
    rw [← bs_of] at hk
    rw [hk, Option.bind_some]
    simp only [checkAll_cons, checkC]
    by_cases h0 : checkR (runesR c.f0.data.toList) = 0
    · simp only [h0, if_true]
      by_cases h1 : (c.f1.size : Int) > 1024
      · simp [h1]
      · simp only [h1, if_false]
        by_cases h2 : c.f2 = true
        · simp only [h2, if_true]
          by_cases h3 : c.f1.toList = []
          · simp [h3]
          · simp [h3]
        · simp [h2]
    · simp only [h0, if_false]
theorem frame_Check_f (k : Nat) (hk : 140 ≤ k) (l : List S62) (hs : ∀ c ∈ l, c.f0.size ≤ 1000000) : frame_Check.f k l = some (checkL l) := by
  unfold frame_Check.f checkL
  by_cases hl : l.length > 64
  · rw [if_pos (by omega), if_pos hl]
  · rw [if_neg (by omega), if_neg hl]
    have := fcheck_loop l (by omega) hs l.length (k - l.length - 71) 0 (by omega)
    rw [show k - l.length - 71 + l.length + 71 = k by omega, List.drop_zero] at this
    rw [show ((0 : Nat) : Int) = 0 from rfl] at this
    rw [this]
theorem rcheck_loop (l : List S62) (hl : l.length ≤ 64) (M : Nat) (hM : M ≤ 1000000) (hs : ∀ c ∈ l, c.f0.size ≤ M) : ∀ (d k i : Nat), i + d = l.length →
    sheetpileref19_Check.l0 (k + d + 3 * M + 81) l (i : Int) = some (if checkAll (l.drop i) = 0 then (if l = [] then 1 else 0) else checkAll (l.drop i)) := by
  intro d
  induction d with
  | zero =>
    intro k i hi
    rw [List.drop_of_length_le (by omega), sheetpileref19_Check.l0, if_neg (by omega), check_end]; rfl
  | succ d ih =>
    intro k i hi
    have hlt : i < l.length := by omega
    rw [show k + (d + 1) + 3 * M + 81 = (k + d + 3 * M + 81) + 1 by omega, sheetpileref19_Check.l0, if_pos (by omega), if_pos (by omega), rd_getC l i hlt, List.drop_eq_getElem_cons hlt]
    have hx : wrap64 ((i : Int) + 1) = ((i + 1 : Nat) : Int) := by rw [wrap_id (by omega) (by omega)]; omega
    rw [hx, ih k (i + 1) (by omega)]
    have hc := hs l[i] (List.getElem_mem hlt)
    generalize l[i] = c at *
    have hk := ref_Check_f c.f0.data.toList (by rw [data_length]; omega) (k + d + 3 * M + 81) (by rw [data_length]; omega)
    rw [← bs_of] at hk
    rw [hk, Option.bind_some]
    simp only [checkAll_cons, checkC]
    by_cases h0 : checkR (runesR c.f0.data.toList) = 0
    · simp only [h0, if_true]
      by_cases h1 : (c.f1.size : Int) > 1024
      · simp [h1]
      · simp only [h1, if_false]
        by_cases h2 : c.f2 = true
        · simp only [h2, if_true]
          by_cases h3 : c.f1.toList = []
          · simp [h3]
          · simp [h3]
        · simp [h2]
    · simp only [h0, if_false]
theorem ref19_Check_f (M : Nat) (hM : M ≤ 1000000) (k : Nat) (hk : 3 * M + 150 ≤ k) (l : List S62) (hs : ∀ c ∈ l, c.f0.size ≤ M) : sheetpileref19_Check.f k l = some (checkL l) := by
  unfold sheetpileref19_Check.f checkL
  by_cases hl : l.length > 64
  · rw [if_pos (by omega), if_pos hl]
  · rw [if_neg (by omega), if_neg hl]
    have := rcheck_loop l (by omega) M hM hs l.length (k - l.length - 3 * M - 81) 0 (by omega)
    rw [show k - l.length - 3 * M - 81 + l.length + 3 * M + 81 = k by omega, List.drop_zero] at this
    rw [show ((0 : Nat) : Int) = 0 from rfl] at this
    rw [this]
theorem takeL_len (l : List UInt8) : (takeL l).2.1.length ≤ l.length := by
  unfold takeL
  split
  · simp
  · split
    · simp
    · simp only [List.length_drop]; omega
/-- The changes of bytes; none: they are none. -/
def parseL : List UInt8 → Option (List S62)
  | [] => some []
  | c :: m => if (takeL m).2.2 = 0 then
      (if c = 0 then (if (takeL (takeL m).2.1).2.2 = 0 then (parseL (takeL (takeL m).2.1).2.1).map (fun r => (⟨bs (takeL m).1, bs (takeL (takeL m).2.1).1, false⟩ : S62) :: r) else none)
       else if c = 1 then (parseL (takeL m).2.1).map (fun r => (⟨bs (takeL m).1, ⟨#[]⟩, true⟩ : S62) :: r) else none) else none
termination_by s => s.length
decreasing_by
  · have h1 := takeL_len m; have h2 := takeL_len (takeL m).2.1; simp only [List.length_cons]; omega
  · have h1 := takeL_len m; simp only [List.length_cons]; omega
theorem bs_nil : (⟨#[]⟩ : ByteArray) = bs [] := rfl
theorem bt_zero (c : UInt8) (m : List UInt8) : bt (bs (c :: m)) 0 = ((c.toNat : Nat) : Int) := by
  have := bt_bs (c :: m) 0 (by simp)
  rw [show ((0 : Nat) : Int) = 0 from rfl] at this
  rw [this]; rfl
theorem byte_eq (c : UInt8) (n : Nat) (hn : n < 256) : ((c.toNat : Nat) : Int) = (n : Int) ↔ c = UInt8.ofNat n := by
  constructor
  · intro h
    have : c.toNat = n := by omega
    rw [← this]; simp
  · rintro rfl
    have : (UInt8.ofNat n).toNat = n := by simp [UInt8.toNat_ofNat', Nat.mod_eq_of_lt hn]
    rw [this]
theorem chF_parse : ∀ (n : Nat) (s : List UInt8) (acc : List S62), s.length < n → n ≤ 1000003 →
    (∀ cs, parseL s = some cs → chF n (bs s) acc = some (acc ++ cs, true)) ∧ (parseL s = none → ∃ l, chF n (bs s) acc = some (l, false)) := by
  intro n
  induction n with
  | zero => intro s acc h; omega
  | succ n ih =>
    intro s acc hs hn
    cases s with
    | nil =>
      rw [parseL, chF, if_pos (by rw [bs_toList])]
      refine ⟨fun cs h => ?_, fun h => by cases h⟩
      obtain rfl := Option.some.inj h
      simp
    | cons c m =>
      have hm : m.length < n := by simpa using hs
      have e1 : (bs (c :: m)).extract 1 (bs (c :: m)).size = bs m := by rw [bs_size, bs_extract_end]; rfl
      have hcne : ¬ (bs (c :: m)).toList = [] := by rw [bs_toList]; simp
      have h1 := takeL_len m
      have h2 := takeL_len (takeL m).2.1
      rw [parseL, chF, if_neg hcne, e1, wire_Take_f m (by omega), Option.bind_some, bt_zero]
      simp only []
      rw [wire_Take_f (takeL m).2.1 (by omega), Option.bind_some]
      simp only []
      have b0 := byte_eq c 0 (by decide)
      have b1 := byte_eq c 1 (by decide)
      rw [show ((0 : Nat) : Int) = 0 from rfl] at b0
      rw [show ((1 : Nat) : Int) = 1 from rfl] at b1
      rw [show UInt8.ofNat 0 = 0 from rfl] at b0
      rw [show UInt8.ofNat 1 = 1 from rfl] at b1
      by_cases c0 : c = 0
      · rw [if_pos (b0.2 c0), if_pos c0]
        by_cases t1 : (takeL m).2.2 = 0
        · rw [if_pos t1]
          by_cases t2 : (takeL (takeL m).2.1).2.2 = 0
          · rw [if_pos t2, if_pos (by simp [t1, t2])]
            obtain ⟨g1, g2⟩ := ih (takeL (takeL m).2.1).2.1 (acc ++ [⟨bs (takeL m).1, bs (takeL (takeL m).2.1).1, false⟩]) (by omega) (by omega)
            cases hp : parseL (takeL (takeL m).2.1).2.1 with
            | none => exact ⟨fun cs h => by simp at h, fun _ => g2 hp⟩
            | some r =>
              refine ⟨fun cs h => ?_, fun h => by simp at h⟩
              simp only [Option.map_some, Option.some.injEq] at h
              subst h
              rw [g1 r hp, List.append_assoc]; rfl
          · rw [if_neg t2, if_neg (by simp [t2])]
            exact ⟨fun cs h => by simp at h, fun _ => ⟨_, rfl⟩⟩
        · rw [if_neg t1, if_neg (by simp [t1])]
          exact ⟨fun cs h => by simp at h, fun _ => ⟨_, rfl⟩⟩
      · rw [if_neg (fun h => c0 (b0.1 h)), if_neg c0]
        by_cases c1 : c = 1
        · rw [if_pos (b1.2 c1), if_pos c1]
          by_cases t1 : (takeL m).2.2 = 0
          · rw [if_pos t1, if_pos (by simp [t1])]
            obtain ⟨g1, g2⟩ := ih (takeL m).2.1 (acc ++ [⟨bs (takeL m).1, ⟨#[]⟩, true⟩]) (by omega) (by omega)
            cases hp : parseL (takeL m).2.1 with
            | none => exact ⟨fun cs h => by simp at h, fun _ => g2 hp⟩
            | some r =>
              refine ⟨fun cs h => ?_, fun h => by simp at h⟩
              simp only [Option.map_some, Option.some.injEq] at h
              subst h
              rw [g1 r hp, List.append_assoc]; rfl
          · rw [if_neg t1, if_neg (by simp [t1])]
            exact ⟨fun cs h => by simp at h, fun _ => ⟨_, rfl⟩⟩
        · rw [if_neg (fun h => c1 (b1.1 h)), if_neg c1]
          refine ⟨fun cs h => by split at h <;> simp at h, fun _ => ⟨_, rfl⟩⟩
theorem frame_changes_f (s : List UInt8) (hs : s.length ≤ 1000000) : (∀ cs, parseL s = some cs → frame_changes.f (bs s) = some (cs, true)) ∧ (parseL s = none → ∃ l, frame_changes.f (bs s) = some (l, false)) := by
  unfold frame_changes.f
  rw [bs_size, if_pos hs]
  have := chF_parse (s.length + 2) s [] (by omega) (by omega)
  simpa using this
theorem parse_ref : ∀ (n : Nat) (s : List UInt8) (acc : List S62) (k : Nat), s.length ≤ n → n ≤ 1000000 → acc.length + n ≤ 2000000 →
    sheetpileref19_changes.l0 (k + 2 * n + 12) (bs s) acc = some (match parseL s with | some cs => (acc ++ cs, true) | none => ([], false)) := by
  intro n
  induction n with
  | zero =>
    intro s acc k hs hn ha
    obtain rfl : s = [] := List.eq_nil_of_length_eq_zero (by omega)
    rw [sheetpileref19_changes.l0, if_pos (by rw [bs_toList]), parseL]; simp
  | succ n ih =>
    intro s acc k hs hn ha
    cases s with
    | nil => rw [show k + 2 * (n + 1) + 12 = (k + 2 * (n + 1) + 11) + 1 by omega, sheetpileref19_changes.l0, if_pos (by rw [bs_toList]), parseL]; simp
    | cons c m =>
      have hm : m.length ≤ n := by simpa using hs
      have e1 : (bs (c :: m)).extract 1 (bs (c :: m)).size = bs m := by rw [bs_size, bs_extract_end]; rfl
      have hcne : ¬ (bs (c :: m)).toList = [] := by rw [bs_toList]; simp
      have h1 := takeL_len m
      have h2 := takeL_len (takeL m).2.1
      have hsz : (bs (c :: m)).size = m.length + 1 := by rw [bs_size]; rfl
      rw [show k + 2 * (n + 1) + 12 = (k + 2 * n + 12) + 1 + 1 by omega, sheetpileref19_changes.l0, if_neg hcne, if_pos (by omega), if_pos (by omega), e1, ref_Take_f _ (by omega) m (by omega), Option.bind_some, bt_zero]
      simp only []
      have b0 := byte_eq c 0 (by decide)
      have b1 := byte_eq c 1 (by decide)
      rw [show ((0 : Nat) : Int) = 0 from rfl] at b0
      rw [show ((1 : Nat) : Int) = 1 from rfl] at b1
      rw [show UInt8.ofNat 0 = 0 from rfl] at b0
      rw [show UInt8.ofNat 1 = 1 from rfl] at b1
      have hlim : acc.length < 3518437208883 := by omega
      rw [parseL]
      by_cases t1 : (takeL m).2.2 = 0
      · rw [if_pos t1, if_pos t1, sheetpileref19_changes.j1]
        by_cases c0 : c = 0
        · have hz : ((c.toNat : Nat) : Int) = 0 := b0.2 c0
          have hd : decide (((c.toNat : Nat) : Int) > 1) = false := by rw [hz]; decide
          have he : (((c.toNat : Nat) : Int) == 1) = false := by rw [hz]; decide
          rw [hd, he, if_neg (by decide), if_pos hz, if_pos c0, ref_Take_f _ (by omega) _ (by omega), Option.bind_some]
          simp only []
          by_cases t2 : (takeL (takeL m).2.1).2.2 = 0
          · rw [if_pos t2, if_pos t2, if_pos hlim, ih _ _ k (by omega) (by omega) (by simp; omega)]
            cases parseL (takeL (takeL m).2.1).2.1 with
            | none => simp
            | some r => simp
          · rw [if_neg t2, if_neg t2]
        · have hz : ¬ ((c.toNat : Nat) : Int) = 0 := fun h => c0 (b0.1 h)
          by_cases c1 : c = 1
          · have ho : ((c.toNat : Nat) : Int) = 1 := b1.2 c1
            have hd : decide (((c.toNat : Nat) : Int) > 1) = false := by rw [ho]; decide
            have he : (((c.toNat : Nat) : Int) == 1) = true := by rw [ho]; decide
            rw [hd, he, if_neg (by decide), if_neg hz, if_neg c0, if_pos c1, if_pos hlim, ih _ _ k (by omega) (by omega) (by simp; omega)]
            cases parseL (takeL m).2.1 with
            | none => simp
            | some r => simp
          · have ho : ¬ ((c.toNat : Nat) : Int) = 1 := fun h => c1 (b1.1 h)
            have hd : decide (((c.toNat : Nat) : Int) > 1) = true := by rw [decide_eq_true_eq]; omega
            rw [hd, if_pos rfl, if_neg c0, if_neg c1]
      · rw [if_neg t1, if_neg t1, sheetpileref19_changes.j1, if_pos rfl]
theorem ref19_changes_f (s : List UInt8) (hs : s.length ≤ 1000000) (k : Nat) (hk : 2 * s.length + 12 ≤ k) : sheetpileref19_changes.f k (bs s) = some (match parseL s with | some cs => (cs, true) | none => ([], false)) := by
  unfold sheetpileref19_changes.f
  have := parse_ref s.length s [] (k - 2 * s.length - 12) (Nat.le_refl _) hs (by simp; omega)
  rw [show k - 2 * s.length - 12 + 2 * s.length + 12 = k by omega] at this
  rw [this]
  cases parseL s <;> simp
end Go.Proofs.Ytcgbjkjacpeheaa.Pure
