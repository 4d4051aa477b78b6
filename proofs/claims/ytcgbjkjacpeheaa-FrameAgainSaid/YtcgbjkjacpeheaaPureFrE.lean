/- Frames in lists of bytes, further: the reference's Read, lists that are the same, the program's Write. -/
import Derived.Test.YtcgbjkjacpeheaaPFrx2
import Derived.Test.YtcgbjkjacpeheaaPFrx10
import Derived.Test.YtcgbjkjacpeheaaPFrx5
import Derived.Test.YtcgbjkjacpeheaaPFrx6
import Derived.Test.YtcgbjkjacpeheaaPFrx7
import Derived.Test.YtcgbjkjacpeheaaPureFrD
namespace Go.Proofs.Ytcgbjkjacpeheaa.Pure
set_option linter.unusedVariables false
set_option linter.unusedSimpArgs false
open Go.RowKit Go.Proofs.Ytcgbjkjacpeheaa.PFr Go.Proofs.Ytcgbjkjacpeheaa.Given Go.Proofs.Ytcgbjkjacpeheaa.Bs Go.Proofs.Ytcgbjkjacpeheaa.WirePlain Go.Proofs.Ytcgbjkjacpeheaa.KeyPlain Go.Proofs.Ytcgbjkjacpeheaa.RunesPlain Go.Proofs.Ytcgbjkjacpeheaa.CrcPlain Go.Proofs.YtcgbjkjacpeheaaW.PrintWords Go.Proofs.YtcgbjkjacpeheaaW.PrintLast Go.Proofs.YtcgbjkjacpeheaaW.PrintMore
theorem rreadJ (k : Nat) (r : List UInt8) (hl : r.length ≤ 900000) (hk : 10 * r.length + 200 ≤ k) (h8 : ¬ r.length < 8) :
    sheetpileref19_Read.j0 (k + 1) (bs (71 :: r)) ((lowN (r.take 4) : Nat) : Int) (bs (r.drop 8)) ((lowN ((r.drop 4).take 4) : Nat) : Int) (decide (((bs (r.drop 8)).size : Int) < wrap64 (((lowN ((r.drop 4).take 4) : Nat) : Int) + 4))) = some (outR (readG r)) := by
  have hn := low4 (r.drop 4)
  unfold readG
  rw [if_neg h8]
  generalize lowN ((r.drop 4).take 4) = n at *
  rw [wrap_id (a := (n : Int) + 4) (by omega) (by omega), bs_size, List.length_drop, sheetpileref19_Read.j0]
  by_cases hc : r.length < n + 12
  · rw [if_pos (by simp; omega), if_pos hc]; rfl
  · rw [if_neg (by simp; omega), if_neg hc, if_pos (by omega), bs_size, List.length_drop, if_pos (by omega), Int.toNat_natCast]
    have e1 : (bs (r.drop 8)).extract n (r.length - 8) = bs (r.drop (8 + n)) := by
      have := bs_extract_end (r.drop 8) n
      rw [List.length_drop, List.drop_drop] at this
      exact this
    have e2 : (bs (71 :: r)).extract 0 (9 + n) = bs (71 :: r.take (8 + n)) := by
      rw [bs_extract_zero, show 9 + n = (8 + n) + 1 by omega, List.take_succ_cons]
    have e3 : (bs (r.drop 8)).extract 0 n = bs ((r.drop 8).take n) := bs_extract_zero _ _
    have hcut : cutL (r.drop (8 + n)) 4 = (((lowN ((r.drop (8 + n)).take 4) : Nat) : Int), (r.drop (8 + n)).drop 4, 0) := by rw [cut4, if_neg (by rw [List.length_drop]; omega)]
    rw [e1, ref_Cut_f k (by omega) _ 4 (by rw [List.length_drop]; omega) (by decide) (by decide), Option.bind_some, hcut]
    simp only []
    have hw : wrap64 (9 + (n : Int)) = ((9 + n : Nat) : Int) := by rw [wrap_id (by omega) (by omega)]; omega
    have hsz : (bs (71 :: r)).size = r.length + 1 := by rw [bs_size]; rfl
    rw [hw, if_pos (by omega), hsz, if_pos (by omega), Int.toNat_natCast, e2, PureC.ref_Sum_f _ (by rw [bs_size, List.length_cons, List.length_take]; omega) k (by rw [bs_size, List.length_cons, List.length_take]; omega), Option.bind_some, bs_data, e3]
    have hm := more_lt (s := 0) (by decide) (71 :: r.take (8 + n))
    rw [wrap_id (a := ((more 0 (71 :: r.take (8 + n)) : Nat) : Int)) (by omega) (by omega)]
    by_cases hs : lowN ((r.drop (8 + n)).take 4) = more 0 (71 :: r.take (8 + n))
    · rw [if_pos (by rw [hs]), if_neg (by simpa using hs)]
      rw [ref19_changes_f ((r.drop 8).take n) (by rw [List.length_take, List.length_drop]; omega) k (by rw [List.length_take, List.length_drop]; omega), Option.bind_some]
      cases hp : parseL ((r.drop 8).take n) with
      | none => simp only []; rw [if_neg (by decide)]; rfl
      | some cs =>
        simp only []
        rw [if_pos trivial]
        have hz := sizes_parse _ _ cs (Nat.le_refl _) hp
        rw [ref19_Check_f r.length (by omega) k (by omega) cs (fun c hc => by have := hz c hc; rw [List.length_take, List.length_drop] at this; omega), Option.bind_some]
        by_cases h0 : checkL cs = 0
        · simp only [h0, if_true]
          unfold outR
          simp only [List.drop_drop]
          rw [show 8 + n + 4 = 12 + n by omega]
        · simp only [h0, if_false]; rfl
    · rw [if_neg (by omega), if_pos (by simpa using hs)]; rfl
theorem ref19_Read_f (l : List UInt8) (hl : l.length ≤ 900000) (k : Nat) (hk : 10 * l.length + 202 ≤ k) : sheetpileref19_Read.f k (bs l) = some (outR (readF l)) := by
  obtain ⟨k, rfl⟩ : ∃ m, k = m + 1 := ⟨k - 1, by omega⟩
  unfold sheetpileref19_Read.f readF
  rw [bs_toList, bs_size]
  by_cases h0 : l = []
  · rw [if_pos h0, if_pos h0]; rfl
  · cases l with
    | nil => exact absurd rfl h0
    | cons c r =>
      simp only [List.length_cons] at hl hk ⊢
      rw [if_neg h0, if_neg h0, if_pos (by omega), bt_zero]
      have b0 := byte_eq c 71 (by decide)
      rw [show ((71 : Nat) : Int) = 71 from rfl] at b0
      rw [show UInt8.ofNat 71 = 71 from rfl] at b0
      by_cases hp : c = 71
      · rw [if_pos (b0.2 hp), if_pos (by omega), if_pos (by rw [hp]; rfl)]
        have ee : (bs (c :: r)).extract 1 (r.length + 1) = bs r := by
          have := bs_extract_end (c :: r) 1
          simpa using this
        subst hp
        rw [ee, ref_Cut_f (k + 1) (by omega) r 4 (by omega) (by decide) (by decide), Option.bind_some, cut4]
        show _ = some (outR (readG r))
        by_cases h4 : r.length < 4
        · rw [if_pos h4]
          simp only []
          rw [ref_Cut_f (k + 1) (by omega) [] 4 (by simp) (by decide) (by decide), Option.bind_some, show cutL [] 4 = (0, [], 4) from rfl, if_neg (by decide), sheetpileref19_Read.j0, if_pos rfl]
          unfold readG
          rw [if_pos (by omega)]; rfl
        · rw [if_neg h4]
          simp only []
          rw [ref_Cut_f (k + 1) (by omega) _ 4 (by rw [List.length_drop]; omega) (by decide) (by decide), Option.bind_some, cut4, if_pos trivial]
          by_cases h8 : (r.drop 4).length < 4
          · rw [if_pos h8]
            simp only []
            rw [if_neg (by decide), sheetpileref19_Read.j0, if_pos rfl]
            unfold readG
            rw [List.length_drop] at h8
            rw [if_pos (by omega)]; rfl
          · rw [if_neg h8]
            simp only [List.drop_drop]
            rw [if_pos trivial]
            rw [List.length_drop] at h8
            exact rreadJ k r (by omega) (by omega) (by omega)
      · rw [if_neg (fun h => hp (b0.1 h)), if_neg (by simp; exact hp)]; rfl
theorem changes_same (l : List S62) (d : Nat) : ∀ (k i : Nat), i + d = l.length → l.length ≤ 10000000 → sheetpileref19_Changes.l0 (k + d + 1) l l (i : Int) = some true := by
  induction d with
  | zero => intro k i hi hl; rw [sheetpileref19_Changes.l0, if_neg (by omega)]
  | succ d ih =>
    intro k i hi hl
    have hx : wrap64 ((i : Int) + 1) = ((i + 1 : Nat) : Int) := by rw [wrap_id (by omega) (by omega)]; omega
    rw [show k + (d + 1) + 1 = (k + d + 1) + 1 by omega, sheetpileref19_Changes.l0, if_pos (by omega), if_pos (by omega), if_pos (by omega), if_neg (by simp), hx]
    exact ih k (i + 1) (by omega) hl
theorem ref19_Changes_same (l : List S62) (hl : l.length ≤ 10000000) (k : Nat) (hk : l.length + 1 ≤ k) : sheetpileref19_Changes.f k l l = some true := by
  unfold sheetpileref19_Changes.f
  rw [if_pos rfl]
  have := changes_same l l.length (k - l.length - 1) 0 (by omega) hl
  rw [show k - l.length - 1 + l.length + 1 = k by omega] at this
  exact this
/-- A text's bytes, its length ahead. -/
def txL (a : ByteArray) : List UInt8 := lowB 2 a.size ++ a.data.toList
def bodyL (l : List S62) : List UInt8 := chsB txL l
def headL (seq : Nat) (l : List S62) : List UInt8 := 71 :: (lowB 4 seq ++ (lowB 4 (bodyL l).length ++ bodyL l))
/-- A group's bytes. -/
def frameL (seq : Nat) (l : List S62) : List UInt8 := headL seq l ++ lowB 4 (more 0 (headL seq l))
def writeL (seq : Int) (l : List S62) : List UInt8 × Int := if checkL l = 0 then (if 0 ≤ seq ∧ seq < 4294967296 then (frameL seq.toNat l, 0) else ([], 1)) else ([], checkL l)
theorem checkL_len {l : List S62} (h : checkL l = 0) : l.length ≤ 64 := by
  unfold checkL at h
  split at h
  · simp at h
  · omega
theorem txK_eq (K : Nat) (hK : 10 ≤ K) (a : ByteArray) (h : a.size ≤ 65535) : frame_text.f K a = some (bs (txL a)) ∧ txK K a = txL a := by
  have h1 : frame_text.f K a = some (bs (txL a)) := by
    unfold frame_text.f
    have := wire_Text_f K hK a.data.toList (by rw [data_length]; omega)
    rw [← bs_of, textL_ok (by rw [data_length]; omega)] at this
    rw [this, Option.bind_some]
    simp only [data_length]
    rfl
  refine ⟨h1, ?_⟩
  unfold txK
  rw [h1, Option.getD_some, bs_data]
theorem chsB_congr (f g : ByteArray → List UInt8) (l : List S62) (h : ∀ c ∈ l, f c.f0 = g c.f0 ∧ f c.f1 = g c.f1) : chsB f l = chsB g l := by
  induction l with
  | nil => rfl
  | cons c l ih =>
    have h1 := h c List.mem_cons_self
    have h2 := ih (fun c hc => h c (List.mem_cons_of_mem _ hc))
    unfold chsB at h2 ⊢
    rw [List.flatMap_cons, List.flatMap_cons, h2]
    unfold chB
    rw [h1.1, h1.2]
theorem txL_len (a : ByteArray) : (txL a).length = a.size + 2 := by unfold txL; rw [List.length_append, lowB_length, data_length]; omega
theorem bodyL_len (l : List S62) (h : ∀ c ∈ l, c.f0.size ≤ 65535 ∧ c.f1.size ≤ 65535) : (bodyL l).length ≤ 131081 * l.length :=
  chsB_len txL l (fun c hc => by have := h c hc; rw [txL_len, txL_len]; omega)
theorem writeF_f (K : Nat) (hK : 140 ≤ K) (seq : Int) (l : List S62) (h0 : -9223372036854775808 ≤ seq) (h1 : seq < 9223372036854775808) (hs : ∀ c ∈ l, c.f0.size ≤ 65535 ∧ c.f1.size ≤ 65535) :
    writeF K seq l = some (bs (writeL seq l).1, (writeL seq l).2) := by
  unfold writeF writeL
  rw [frame_Check_f K hK l (fun c hc => by have := hs c hc; omega), Option.bind_some]
  by_cases hc : checkL l = 0
  · have hlen := checkL_len hc
    have hb := bodyL_len l hs
    rw [if_pos hc, if_pos hc, wire_Put_f K (by omega) seq 4 h0 h1, Option.bind_some]
    by_cases hq : 0 ≤ seq ∧ seq < 4294967296
    · obtain ⟨n, rfl⟩ := Int.eq_ofNat_of_zero_le hq.1
      have hp : putL (n : Int) 4 = (lowB 4 n, 0) := putL_ok (s := 4) (by decide) (by decide) (by rw [pow4]; omega)
      have hck : chsB (txK K) l = bodyL l := chsB_congr _ _ l (fun c hc => by have := hs c hc; exact ⟨(txK_eq K (by omega) c.f0 (by omega)).2, (txK_eq K (by omega) c.f1 (by omega)).2⟩)
      have hok : l.all (okC K) = true := by
        rw [List.all_eq_true]
        intro c hc
        have hz := hs c hc
        obtain ⟨a1, a2⟩ := txK_eq K (by omega) c.f0 (by omega)
        obtain ⟨b1, b2⟩ := txK_eq K (by omega) c.f1 (by omega)
        unfold okC
        rw [a1, b1, a2, b2, txL_len, txL_len]
        simp; omega
      rw [hp, hck]
      simp only [if_true]
      rw [if_pos hq, if_pos ⟨by omega, hok, by rw [bs_size, lowB_length]; decide⟩]
      have hp2 : putL ((bodyL l).length : Int) 4 = (lowB 4 (bodyL l).length, 0) := putL_ok (s := 4) (by decide) (by decide) (by rw [pow4]; omega)
      rw [wire_Put_f K (by omega) _ 4 (by omega) (by omega), Option.bind_some, hp2]
      simp only [bs_append]
      have hh : [71] ++ lowB 4 n ++ lowB 4 (bodyL l).length ++ bodyL l = headL n l := by unfold headL; simp
      have hhl : (headL n l).length ≤ 10000000 := by unfold headL; simp only [List.length_cons, List.length_append, lowB_length]; omega
      rw [hh, PureC.crc_Sum_f _ (by rw [bs_size]; omega), Option.bind_some, bs_data]
      have hm := more_lt (s := 0) (by decide) (headL n l)
      rw [wrap_id (by omega) (by omega), wire_Put_f K (by omega) _ 4 (by omega) (by omega), Option.bind_some]
      have hp3 : putL ((more 0 (headL n l) : Nat) : Int) 4 = (lowB 4 (more 0 (headL n l)), 0) := putL_ok (s := 4) (by decide) (by decide) (by rw [pow4]; omega)
      rw [hp3]
      simp only [bs_size, lowB_length]
      rw [if_pos ⟨by decide, by decide⟩, bs_append]
      rfl
    · have hp : (putL seq 4).2 ≠ 0 := by
        intro h
        unfold putL at h
        split at h
        · simp at h
        · rename_i hx
          split at h
          · simp at h
          · rename_i hb2
            have h4 : (256 : Nat) ^ (4 : Int).toNat = 4294967296 := by decide
            rw [h4] at hb2
            have : seq.toNat < 4294967296 := by
              rcases Nat.lt_or_ge seq.toNat 4294967296 with hlt | hge
              · exact hlt
              · exact absurd (Nat.div_pos hge (by decide)) hb2
            omega
      simp only [hp, if_false]
      rw [if_neg hq]; rfl
  · rw [if_neg hc, if_neg hc]; rfl
theorem frame_Write_f (seq : Int) (l : List S62) (h0 : -9223372036854775808 ≤ seq) (h1 : seq < 9223372036854775808) (hs : ∀ c ∈ l, c.f0.size ≤ 65535 ∧ c.f1.size ≤ 65535) :
    frame_Write.f seq l = some (bs (writeL seq l).1, (writeL seq l).2) := writeF_f 400 (by decide) seq l h0 h1 hs
end Go.Proofs.Ytcgbjkjacpeheaa.Pure
