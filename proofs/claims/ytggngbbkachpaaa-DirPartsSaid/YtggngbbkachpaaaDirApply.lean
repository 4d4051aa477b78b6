/- dir.Apply walked: what a list of pairs is behind changes (slices.Clone, Delete, Insert, the binary search). -/
import Derived.Test.YtggngbbkachpaaaProg
import Derived.Below
import Derived.Deep.Draws
import Derived.Deep.AppendLies
import Derived.Maps.AppendAt
import Derived.OwnWalk
import Derived.Laws.BytesArg
import Derived.Laws.MakeOwn
import Derived.Laws.OwnMore
import Derived.Deep.OwnRows
import Derived.Tactics
import Derived.Lib.ConvBytes
import Derived.Laws.Slices
import Derived.WalkKit
import Derived.KernelRfl
import Derived.RowKit3
import Derived.Deep.LoopGhost
import Derived.Deep.QuietTactic
import Derived.BigQuiet
import Derived.WideLaws
import Derived.Deep.DeepCutAuto
import Derived.Deep.CutBlock
import Derived.Deep.RegionHeld3
import Derived.Laws.Rows
import Derived.Lib.AppendStr
import Derived.ArgAppend
import Derived.Laws.IdiomCopy
import Derived.OrdersHeld
import Derived.Laws.BitsLemmas
import Derived.RowKit
import Derived.Test.YtggngbbkachpaaaWWords
import Derived.Test.YtggngbbkachpaaaWLast
import Derived.Test.YtggngbbkachpaaaWTab
import Derived.Test.YtggngbbkachpaaaWFour
import Derived.Test.YtggngbbkachpaaaWQPut
import Derived.Test.YtggngbbkachpaaaWApart
import Derived.Test.YtggngbbkachpaaaWArr
import Derived.Test.YtggngbbkachpaaaWZeros
import Derived.Test.YtggngbbkachpaaaWFoot
import Derived.Test.YtggngbbkachpaaaWKept
import Derived.Test.YtggngbbkachpaaaWShare
import Derived.Test.YtggngbbkachpaaaWN
import Derived.Test.YtggngbbkachpaaaWFootNe
import Derived.Test.YtggngbbkachpaaaWAt
import Derived.Test.YtggngbbkachpaaaWEqStruct
import Derived.Test.YtggngbbkachpaaaWRepsOne
import Derived.Test.YtggngbbkachpaaaWInv
import Derived.Test.YtggngbbkachpaaaWInvWords
import Derived.Test.YtggngbbkachpaaaWGuard
import Derived.Test.YtggngbbkachpaaaWNEv
import Derived.Test.YtggngbbkachpaaaWMore
import Derived.StillTailTactics
import Derived.Laws.BitsAllLaws
import Derived.Outline
import Derived.Lib.OthersKept
import Derived.Test.YtggngbbkachpaaaBs
import Derived.Deep.RegionLaw
import Derived.Lib.AppendZerosOnto
import Derived.Lib.Overlaps
import Derived.Laws.IdiomCopy
import Derived.Laws.Externs
import Derived.Deep.AppendSrc
import Derived.Lib.SliceRun
import Derived.Lib.Hide
import Derived.Shelf.Small.Strs
import Derived.Test.YtggngbbkachpaaaPDix0
import Derived.Test.YtggngbbkachpaaaPDix9
import Derived.Test.YtggngbbkachpaaaPDix6
namespace Go.Proofs.Ytggngbbkachpaaa.Given
open Go.RowKit Go.Proofs Go.Proofs.Ytggngbbkachpaaa.Bs Go.Proofs.Ytggngbbkachpaaa.PDi Go.Proofs.YtggngbbkachpaaaW.PrintWords Go.Proofs.YtggngbbkachpaaaW.PrintLast Go.Proofs.YtggngbbkachpaaaW.PrintMore
set_option linter.unusedVariables false
set_option linter.unusedSimpArgs false
/-- A row of pairs, cell by cell. -/
def cellsP (l : List S75) : List Value := l.flatMap fun p => [.string p.f0, .string p.f1]
theorem cellsP_length (l : List S75) : (cellsP l).length = l.length * 2 := by
  induction l with
  | nil => rfl
  | cons p l ih => have : cellsP (p :: l) = [.string p.f0, .string p.f1] ++ cellsP l := rfl
                   rw [this, List.length_append, ih, List.length_cons]; simp; omega
theorem cellsP_append (a b : List S75) : cellsP (a ++ b) = cellsP a ++ cellsP b := by simp [cellsP]
theorem cellsP_cons (p : S75) (l : List S75) : cellsP (p :: l) = [.string p.f0, .string p.f1] ++ cellsP l := rfl
theorem cellsP_take (l : List S75) (i : Nat) : (cellsP l).take (i * 2) = cellsP (l.take i) := by
  rcases Nat.lt_or_ge i l.length with h | h
  · have e : cellsP l = cellsP (l.take i) ++ cellsP (l.drop i) := by rw [← cellsP_append, List.take_append_drop]
    rw [e, List.take_append_of_le_length (by rw [cellsP_length, List.length_take]; omega), List.take_of_length_le (by rw [cellsP_length, List.length_take]; omega)]
  · rw [List.take_of_length_le h, List.take_of_length_le (by rw [cellsP_length]; omega)]
theorem cellsP_drop (l : List S75) (i : Nat) : (cellsP l).drop (i * 2) = cellsP (l.drop i) := by
  rcases Nat.lt_or_ge i l.length with h | h
  · have e : cellsP l = cellsP (l.take i) ++ cellsP (l.drop i) := by rw [← cellsP_append, List.take_append_drop]
    rw [e, List.drop_append_of_le_length (by rw [cellsP_length, List.length_take]; omega), List.drop_of_length_le (by rw [cellsP_length, List.length_take]; omega), List.nil_append]
  · rw [List.drop_of_length_le h, List.drop_of_length_le (by rw [cellsP_length]; omega)]; rfl
theorem cellsP_one (l : List S75) : ∀ v ∈ cellsP l, v.oneCell' = true := by
  intro v hv
  obtain ⟨p, _, hp⟩ := List.mem_flatMap.1 hv
  rcases List.mem_cons.1 hp with rfl | hp
  · rfl
  · rcases List.mem_cons.1 hp with rfl | hp
    · rfl
    · cases hp
theorem cellsP_mul (l : List S75) (d : Nat) : (cellsP l).length = l.length * 2 := cellsP_length l
/-- The row's block: cap pairs, of which the first ones are l. -/
structure RowP (W : World) (g cap : Nat) (l : List S75) : Prop where
  ex : ∃ cur : Array Value, W.heap[g]? = some (.cells cur 75 (0, 0)) ∧ cur.size = cap * 2 ∧ cur.toList.take (l.length * 2) = cellsP l
  le : l.length ≤ cap
  mx : cap ≤ maxLen
def OwnP (W : World) (base : Nat) (v : Value) (l : List S75) : Prop := (v = .slice none 0 0 ∧ l = []) ∨ ∃ g cap, v = .slice (some ⟨g, 0, none⟩) l.length cap ∧ base ≤ g ∧ RowP W g cap l
theorem ownP_iff {W : World} {base : Nat} {v : Value} {l : List S75} : OwnP W base v l ↔ W.ownsRow base 75 2 v l.length (cellsP l) := by
  constructor
  · rintro (⟨rfl, rfl⟩ | ⟨g, cap, rfl, hg, ⟨cur, h1, h2, h3⟩, hle, hmx⟩)
    · exact ⟨by simp [cellsP], .inl ⟨rfl, rfl⟩⟩
    · exact ⟨cellsP_length l, .inr ⟨g, cap, cur, rfl, hg, h1, hle, hmx, h2, h3⟩⟩
  · rintro ⟨_, ⟨rfl, h0⟩ | ⟨g, cap, cur, rfl, hg, h1, hle, hmx, h2, h3⟩⟩
    · exact .inl ⟨rfl, List.eq_nil_of_length_eq_zero h0⟩
    · exact .inr ⟨g, cap, rfl, hg, ⟨cur, h1, h2, h3⟩, hle, hmx⟩
theorem reps_cellsP (w : World) (base : Nat) (ok : Nat → Prop) (l : List S75) : Reps (k75.M w base ok) 2 l (cellsP l) := by
  induction l with
  | nil => exact Reps.none _ _
  | cons p l ih => exact Reps.c2 (k75_mkM w base ok p) ih
theorem ownP_R {W : World} {base : Nat} {v : Value} {l : List S75} (h : OwnP W base v l) : Kd.R k75 75 W base (fun _ => True) v l :=
  ⟨fun _ _ => trivial, cellsP l, ownP_iff.1 h, reps_cellsP _ _ _ l⟩
theorem ownP_C {W : World} {base : Nat} {v : Value} {l : List S75} (h : OwnP W base v l) : ∃ A c, v = .slice A l.length c ∧ l.length ≤ c ∧ Kd.C k75 W A l.length l := Kd.R_reads (ownP_R h)
theorem RowP.later {W W' : World} {g cap : Nat} {l : List S75} (h : RowP W g cap l) (hb : Below W.heap.size W W') : RowP W' g cap l := by
  obtain ⟨⟨cur, h1, h2⟩, h3, h4⟩ := h
  exact ⟨⟨cur, blk_below h1 hb, h2⟩, h3, h4⟩
theorem OwnP.later {W W' : World} {base : Nat} {v : Value} {l : List S75} (h : OwnP W base v l) (hb : Below W.heap.size W W') : OwnP W' base v l := by
  rcases h with h | ⟨g, cap, h1, h2, h3⟩
  · exact .inl h
  · exact .inr ⟨g, cap, h1, h2, h3.later hb⟩
theorem RowP.cell {W : World} {g cap : Nat} {l : List S75} (h : RowP W g cap l) : ∀ j u, (cellsP l)[j]? = some u → W.cell? ⟨g, j, none⟩ = some u := by
  obtain ⟨⟨cur, h1, h2, h3⟩, h4, h5⟩ := h
  intro j u hj
  rw [Lib.cell_of_heap h1]
  rw [← h3, List.getElem?_take] at hj
  split at hj
  · rw [← Array.getElem?_toList]; exact hj
  · cases hj
theorem RowP.some_ {W : World} {g cap : Nat} {l : List S75} (h : RowP W g cap l) : ∀ j, j < cap * 2 → (W.cell? ⟨g, j, none⟩).isSome = true := by
  obtain ⟨⟨cur, h1, h2, h3⟩, h4, h5⟩ := h
  intro j hj
  rw [Lib.cell_of_heap h1, Array.getElem?_eq_getElem (by omega)]
  rfl
theorem RowP.frozen {W : World} {g cap : Nat} {l : List S75} (h : RowP W g cap l) : ∀ j, W.frozen? ⟨g, j, none⟩ = false := by
  obtain ⟨⟨cur, h1, h2, h3⟩, h4, h5⟩ := h
  intro j
  exact Lib.frozen_of_heap h1 j
/-- Cells of a block of plain cells are written one behind the other. -/
theorem setCells_block (g : Nat) (t : TypeId) : ∀ (vs : List Value) (o : Nat) (W : World) (cur : Array Value), W.heap[g]? = some (.cells cur t (0, 0)) → o + vs.length ≤ cur.size →
    ∃ cur' : Array Value, (W.setCells g o vs).heap[g]? = some (.cells cur' t (0, 0)) ∧ cur'.size = cur.size ∧ cur'.toList = cur.toList.take o ++ vs ++ cur.toList.drop (o + vs.length)
  | [], o, W, cur, h, hl => ⟨cur, h, rfl, by simp⟩
  | v :: vs, o, W, cur, h, hl => by
    have hl' : o + (vs.length + 1) ≤ cur.size := hl
    have h1 : (W.setCell ⟨g, o, none⟩ v).heap[g]? = some (.cells (cur.set o v (by omega)) t (0, 0)) := by
      rw [heap_setCell_same _ _ _ _ _ _ h]
      congr 2
      simp [Array.setIfInBounds, show o < cur.size by omega]
    obtain ⟨cur', e1, e2, e3⟩ := setCells_block g t vs (o + 1) _ _ h1 (by simp; omega)
    refine ⟨cur', e1, by rw [e2]; simp, ?_⟩
    rw [e3]
    have ht : (cur.set o v (by omega)).toList.take (o + 1) = cur.toList.take o ++ [v] := by
      have hlo : (cur.toList.take o).length = o := by rw [List.length_take, Array.length_toList]; omega
      rw [Array.toList_set, List.set_eq_take_append_cons_drop, if_pos (by rw [Array.length_toList]; omega), List.take_append, hlo, List.take_of_length_le (by rw [hlo]; omega), show o + 1 - o = 1 by omega]
      rfl
    have hd : (cur.set o v (by omega)).toList.drop (o + 1 + vs.length) = cur.toList.drop (o + (vs.length + 1)) := by
      rw [Array.toList_set, List.drop_set_of_lt (by omega), show o + 1 + vs.length = o + (vs.length + 1) by omega]
    rw [ht, hd]
    simp
theorem below_setCells (g : Nat) {W0 : World} : ∀ (vs : List Value) (o : Nat) (W : World), Below g W0 W → Below g W0 (W.setCells g o vs)
  | [], _, _, h => h
  | v :: vs, o, W, h => below_setCells g vs (o + 1) _ (h.setCell (p := ⟨g, o, none⟩) (Nat.le_refl _) v)
theorem size_setCells_ (g : Nat) : ∀ (vs : List Value) (o : Nat) (W : World), (W.setCells g o vs).heap.size = W.heap.size
  | [], _, _ => rfl
  | v :: vs, o, W => by rw [World.setCells, size_setCells_ g vs (o + 1)]; simp
/-- 'copy' at whatever size: all is read ahead of the first write. -/
theorem run_copy_k {P : Program} (w : World) (dT sT ty elem : TypeId) (size : Nat) (b o dLen dCap : Nat) (a : Addr) (sLen sCap : Nat) (cs : List Value)
    (hu : P.underlying dT = some (.slice elem)) (hs : (P.info? elem).map (·.size) = some size) (hn : cs.length = Nat.min sLen dLen * size)
    (hsrc : ∀ j v, cs[j]? = some v → w.cell? (a.add j) = some v) (hc : ∀ j, j < cs.length → (w.cell? ⟨b, o + j, none⟩).isSome = true) (hf : ∀ j, j < cs.length → w.frozen? ⟨b, o + j, none⟩ = false) (h1 : ∀ v ∈ cs, v.oneCell' = true) :
    (Builtin.copy_ #[dT, sT] ty #[.slice (some ⟨b, o, none⟩) dLen dCap, .slice (some a) sLen sCap]).run P w = .ok (goInt (Nat.min sLen dLen)) (w.setCells b o cs) := by
  have hl := run_loadCells_list (P := P) w a cs hsrc
  have hst := run_storeCells_cells (P := P) b o cs 0 w (by simpa using hc) (by simpa using hf) h1
  cases hq : P.info? elem with
  | none => simp [hq] at hs
  | some i =>
    have hi : i.size = size := by simpa [hq] using hs
    rw [hn] at hl
    simp [Builtin.copy_, run_underlying hu, Builtin.lenOf, Builtin.firstCells, sizeOf, typeInfo, hq, hi, hl, hst]
/-- 'clear' at whatever size. -/
theorem run_clear_k {P : Program} (w : World) (t e ty : TypeId) (z : Value) (zs : List Value) (ht : P.underlying t = some (.slice e)) (hv : ∀ w, (zeroValue e).run P w = .ok z w) (b o n c : Nat) (hn : 0 < n) (hz : (Builtin.zeroCells z.cells n).toList = zs) (h1 : ∀ v ∈ zs, v.oneCell' = true)
    (hc : ∀ j, j < zs.length → (w.cell? ⟨b, o + j, none⟩).isSome = true) (hf : ∀ j, j < zs.length → w.frozen? ⟨b, o + j, none⟩ = false) :
    (Builtin.clear_ #[t] ty #[.slice (some ⟨b, o, none⟩) n c]).run P w = .ok (.tuple #[]) (w.setCells b o zs) := by
  have hst := run_storeCells_cells (P := P) b o zs 0 w (by simpa using hc) (by simpa using hf) h1
  simp only [Nat.add_zero] at hst
  obtain ⟨m, rfl⟩ : ∃ m, n = m + 1 := ⟨n - 1, by omega⟩
  simp [Builtin.clear_, run_underlying ht, hv, hz, hst]
theorem readC {w : World} {ad : Addr} {l : List S75} (h : Kd.C k75 w (some ad) l.length l) : ∀ j u, (cellsP l)[j]? = some u → w.cell? (ad.add j) = some u := by
  obtain ⟨inner, hr, hc⟩ := ReadsRow.inner_ h
  have : inner = cellsP l := by
    clear hc h
    obtain ⟨hl, hr⟩ := hr
    apply List.ext_getElem?
    intro j
    have hl2 : inner.length = (cellsP l).length := by rw [hl, cellsP_length]; rfl
    rcases Nat.lt_or_ge j inner.length with hj | hj
    · have hjl : j / 2 < l.length := by rw [hl2, cellsP_length] at hj; omega
      have h1 := k75_open (hr (j / 2) _ (List.getElem?_eq_getElem hjl))
      have h2 : ((cellsP l).drop (j / 2 * 2)).take 2 = [.string l[j / 2].f0, .string l[j / 2].f1] := by
        rw [cellsP_drop, List.drop_eq_getElem_cons hjl, cellsP_cons]
        rfl
      have h3 : (inner.drop (j / 2 * 2)).take 2 = ((cellsP l).drop (j / 2 * 2)).take 2 := h1.trans h2.symm
      have h4 : ∀ L : List Value, L[j]? = ((L.drop (j / 2 * 2)).take 2)[j % 2]? := by
        intro L
        rw [List.getElem?_take, if_pos (Nat.mod_lt _ (by decide)), List.getElem?_drop]
        congr 1
        omega
      rw [h4 inner, h4 (cellsP l), h3]
    · rw [List.getElem?_eq_none hj, List.getElem?_eq_none (by omega)]
  rw [← this]
  exact hc
set_option maxHeartbeats 2000000 in
set_option maxRecDepth 100000 in
theorem clone_some (ad : Addr) (c : Nat) (l : List S75) (w : World) (hr : ∀ j u, (cellsP l)[j]? = some u → w.cell? (ad.add j) = some u) (hl : l.length ≤ 1000000) :
    Calls Try.prog 44 #[.slice (some ad) l.length c] w fun e w' => ∃ v, e = .returned v ∧ OwnP w' w.heap.size v l ∧ Below w.heap.size w w' := by
  obtain ⟨i0, hi, hz0, hz1, hz2⟩ := info_parts info75
  have q22 : ∀ (w : World) (a : Option Addr) (n c n' c' : Nat), (binOp .eql 22 (.slice a n c) (.slice none n' c')).run Try.prog w = .ok (.bool a.isNone) w := fun w a n c n' c' => Lib.run_eql_slice_nil w _ _ a n c n' c' Try.underlying22
  have HR := Aside0.mk hr
  clear hr
  go_enter Try.func44, Try.ntmps44
  go_wp2_with (at_builtin; refine wpList_append_own _ rfl _ _ 22 rfl w.heap.size 75 i0 _ 2 32 Try.underlying22 hi hz0 hz1 hz2 rfl (by decide) _ _ _ rfl (World.ownsRow_made w #[] 0 (Nat.le_refl _) (Nat.zero_le _) (by simp)) ad l.length c (cellsP l) rfl ?qc1 ?qc2 ?qc3 ?qc4 ?qc5 ?qc6 ?_)
  case qc1 => exact cellsP_length l
  case qc2 =>
    intro j u hj
    exact Lib.cell?_alloc_some _ (HR.out j u hj)
  case qc3 => exact cellsP_one l
  case qc4 => rw [Nat.zero_add]; unfold maxLen; omega
  case qc5 => rw [Nat.zero_add]; omega
  case qc6 => simp
  intro v' w1 hown hgrow hnil
  go_wp2
  go_ret
  refine ⟨v', rfl, ownP_iff.2 (by simpa using hown), ?_⟩
  exact ((Below.refl _ w).alloc (Nat.le_refl _) _).grown hgrow (by simp) (by intro k hk; simp [Value.ownBlock] at hk; omega)
set_option maxHeartbeats 1000000 in
theorem clone_nil (n c : Nat) (w : World) : Calls Try.prog 44 #[.slice none n c] w fun e w' => e = .returned (.slice none 0 0) ∧ w' = w := by
  have q22 : ∀ (w : World) (a : Option Addr) (n c n' c' : Nat), (binOp .eql 22 (.slice a n c) (.slice none n' c')).run Try.prog w = .ok (.bool a.isNone) w := fun w a n c n' c' => Lib.run_eql_slice_nil w _ _ a n c n' c' Try.underlying22
  go_enter Try.func44, Try.ntmps44
  go_wp2
  go_ret
  exact ⟨rfl, rfl⟩
theorem clone_calls (A : Option Addr) (c : Nat) (l : List S75) (w : World) (hr : Kd.C k75 w A l.length l) (hl : l.length ≤ 1000000) :
    Calls Try.prog 44 #[.slice A l.length c] w fun e w' => ∃ v, e = .returned v ∧ OwnP w' w.heap.size v l ∧ Below w.heap.size w w' := by
  cases A with
  | none =>
    have h0 : l = [] := by
      cases l with
      | nil => rfl
      | cons p l => obtain ⟨ad, e, _⟩ := hr.2.2 (by simp); cases e
    subst h0
    refine (clone_nil _ _ w).mono ?_
    rintro e w' ⟨rfl, rfl⟩
    exact ⟨_, rfl, .inl ⟨rfl, rfl⟩, Below.refl _ _⟩
  | some ad => exact clone_some ad c l w (readC hr) hl
set_option maxHeartbeats 4000000 in
set_option maxRecDepth 100000 in
theorem delete_calls (g cap : Nat) (l : List S75) (i : Nat) (hi : i < l.length) (w : World) (hR : RowP w g cap l) :
    Calls Try.prog 47 #[.slice (some ⟨g, 0, none⟩) l.length cap, .int .i64 (i : Int), .int .i64 ((i : Int) + 1)] w fun e w' => e = .returned (.slice (some ⟨g, 0, none⟩) (l.length - 1) cap) ∧ RowP w' g cap (l.take i ++ l.drop (i + 1)) ∧ Below g w w' := by
  obtain ⟨i0, hi0, hz0, hz1, hz2⟩ := info_parts info75
  have hcell := hR.cell
  have hsome := hR.some_
  have hfroz := hR.frozen
  have hle := hR.le
  have hmx := hR.mx
  unfold maxLen at hmx
  obtain ⟨cur, hcur, hcs, hct⟩ := hR.ex
  -- what is moved
  obtain ⟨news, hnews⟩ : ∃ news, news = cellsP (l.drop (i + 1)) := ⟨_, rfl⟩
  have hlen : news.length = (l.length - (i + 1)) * 2 := by rw [hnews, cellsP_length, List.length_drop]
  obtain ⟨A, hA, hsrc⟩ : ∃ A : Addr, (if cap = i + 1 then some (⟨g, 0, none⟩ : Addr) else some ⟨g, (i + 1) * 2, none⟩) = some A ∧ Hid (∀ t u, news[t]? = some u → w.drew.cell? (A.add t) = some u) := by
    by_cases h : cap = i + 1
    · refine ⟨⟨g, 0, none⟩, by simp [h], Lib.hid fun t u hu => ?_⟩
      have h0 : news.length = 0 := by rw [hlen]; omega
      rw [List.length_eq_zero_iff.1 h0] at hu
      simp at hu
    · refine ⟨⟨g, (i + 1) * 2, none⟩, by simp [h], Lib.hid fun t u hu => ?_⟩
      rw [Addr.add_lit]
      refine hcell _ _ ?_
      rw [hnews, ← cellsP_drop, List.getElem?_drop] at hu
      exact hu
  have s1 : Hid (news.length = (l.length - (i + 1)) * 2) := Lib.hid hlen
  have s2 : Hid (∀ u ∈ news, u.oneCell' = true) := Lib.hid (by rw [hnews]; exact cellsP_one _)
  have s3 : Hid (∀ t, t < news.length → (w.drew.cell? ⟨g, 0 + i * 2 + t, none⟩).isSome = true ∧ w.drew.frozen? ⟨g, 0 + i * 2 + t, none⟩ = false) := by
    refine Lib.hid fun t ht => ?_
    rw [hlen] at ht
    exact ⟨hsome _ (by omega), hfroz _⟩
  obtain ⟨W1, hW1⟩ : ∃ W1, W1 = w.drew.setCells g (0 + i * 2) news := ⟨_, rfl⟩
  obtain ⟨cur1, hc1, hc1s, hc1t⟩ := setCells_block g 75 news (0 + i * 2) w.drew cur hcur (by rw [hlen]; omega)
  rw [← hW1] at hc1
  obtain ⟨zs, hzs⟩ : ∃ zs, zs = (Builtin.zeroCells (Value.agg #[.string ⟨#[]⟩, .string ⟨#[]⟩]).cells 1).toList := ⟨_, rfl⟩
  have hzs2 : zs = [.string ⟨#[]⟩, .string ⟨#[]⟩] := by rw [hzs]; simp [Builtin.zeroCells, Value.cells]; rfl
  have hzl : zs.length = 2 := by rw [hzs2]; rfl
  have hcl : ∀ ty, (Builtin.clear_ #[22] ty #[.slice (some ⟨g, (l.length - 1) * 2, none⟩) 1 (cap - (l.length - 1))]).run Try.prog W1 = .ok (.tuple #[]) (W1.setCells g ((l.length - 1) * 2) zs) := by
    intro ty
    refine run_clear_k W1 _ _ ty _ zs Try.underlying22 Try.zeroValue75 g _ 1 _ (by decide) hzs.symm ?_ ?_ ?_
    · intro v hv
      rw [hzs2] at hv
      rcases List.mem_cons.1 hv with rfl | hv
      · rfl
      · rcases List.mem_cons.1 hv with rfl | hv
        · rfl
        · cases hv
    · intro j hj
      rw [Lib.cell_of_heap hc1, Array.getElem?_eq_getElem (by rw [hc1s]; omega)]
      rfl
    · intro j hj
      exact Lib.frozen_of_heap hc1 _
  obtain ⟨cur2, hc2, hc2s, hc2t⟩ := setCells_block g 75 zs ((l.length - 1) * 2) W1 cur1 hc1 (by rw [hzl, hc1s]; omega)
  have hfin : RowP (W1.setCells g ((l.length - 1) * 2) zs) g cap (l.take i ++ l.drop (i + 1)) := by
    refine ⟨⟨cur2, hc2, by rw [hc2s, hc1s, hcs], ?_⟩, by simp; omega, hR.mx⟩
    have e1 : (l.take i ++ l.drop (i + 1)).length = l.length - 1 := by simp; omega
    have e2 : cur1.toList.length = cap * 2 := by rw [Array.length_toList, hc1s, hcs]
    rw [e1, hc2t, List.append_assoc, List.take_append_of_le_length (by rw [List.length_take, e2]; omega), List.take_take, Nat.min_self, hc1t, Nat.zero_add]
    have e3 : cur.toList.take (i * 2) = cellsP (l.take i) := by
      rw [← cellsP_take, ← hct, List.take_take]
      congr 1
      omega
    have e4 : (cellsP (l.take i) ++ news).length = (l.length - 1) * 2 := by rw [List.length_append, cellsP_length, List.length_take, hlen]; omega
    rw [e3, List.take_append_of_le_length (by omega), List.take_of_length_le (by omega), cellsP_append, hnews]
  have hbel : Below g w (W1.setCells g ((l.length - 1) * 2) zs) := by
    refine below_setCells g _ _ _ ?_
    rw [hW1]
    exact below_setCells g _ _ _ (below_drew1 (Below.refl g w))
  have hFin := Lib.hid hfin
  have hBel := Lib.hid hbel
  have hW : Hid (W1 = w.drew.setCells g (0 + i * 2) news) := Lib.hid hW1
  have hic : i ≤ cap := by omega
  have hjc : i + 1 ≤ cap := by omega
  have u75 := Try.underlying75
  have hb1 : (0 : Int) ≤ (i : Int) + 1 := by omega
  have hb3 : ¬ (cap = l.length - 1) := by omega
  have hb4 : l.length - (l.length - 1) = 1 := by omega
  have hb5 : l.length - 1 ≤ l.length := by omega
  have hb6 : l.length ≤ cap := hle
  have hb2 : (i : Int) + 1 ≤ (l.length : Int) := by omega
  clear hW1 hc1 hc1s hzs hzs2 hc1t hc2 hc2s hc2t hfin hbel hnews hlen hcell hsome hfroz hcur hcs hct hR
  go_enter Try.func47, Try.ntmps47
  go_wp2_with fail
  go_region_law (refine step_append_room rfl (.tmp 22) (.tmp 25) 22 rfl 75 i0 2 Try.underlying22 hi0 hz1 g 0 i cap (by simp [Act.eval, Act.put]) A (l.length - (i + 1)) (cap - (i + 1)) news (by simp [Act.eval, Act.put]) s1.out hsrc.out s2.out (by omega) s3.out ?_; rw [← hW.out, show i + (l.length - (i + 1)) = l.length - 1 by omega])
  go_wp2
  go_ret
  exact ⟨rfl, hFin.out, hBel.out⟩
theorem shape_cells {w : World} {b : Nat} {cs : Array Value} {t : TypeId} {fz : Nat × Nat} (h : w.heap[b]? = some (.cells cs t fz)) : w.shape? b = some (t, cs.size) := by
  simp [World.shape?, h]
theorem step_copy_k {P : Program} {ops : Array Oper} {o : Oper} {a : Act} {w : World} {K : Act → World → Prop} {Q : Exit → Act → World → Prop} {E : Prop}
    (hg : o.guard = none) (d x : Operand) (dT sT : TypeId) (hop : o.op = Op.call { callee := Callee.builtin Builtin.copy, args := #[d, x], argTypes := #[dT, sT] })
    (v u : Value) (hd : a.eval d = v) (hx : a.eval x = u) {v' : Value} {w' : World} (hr : (Builtin.copy_ #[dT, sT] o.type #[v, u]).run P w = .ok v' w') (hK : K (a.put o.dst v') w') :
    if Region.wanted o (yielded ops a.tmps) = true then Oper.wp P o a w K Q else E := by
  have hw : Region.wanted o (yielded ops a.tmps) = true := by simp [Region.wanted, hg]
  rw [if_pos hw]
  unfold Oper.wp
  simp [execOp, hop, resolve, invoke, builtin, hd, hx, hr, Result.andThen]
  exact hK
theorem wpList_copy_k {P : Program} (w : World) {ops : Array Oper} {rest : List Oper} {o : Oper} {a : Act} {Q : Exit → Act → World → Prop} (hgd : o.guard = none) (d s : Operand) (t t' : TypeId)
    (ho : o.op = .call { callee := .builtin .copy, args := #[d, s], argTypes := #[t, t'] }) (v u : Value) (hd : a.eval d = v) (hs : a.eval s = u) {v' : Value} {w' : World}
    (hr : (Builtin.copy_ #[t, t'] o.type #[v, u]).run P w = .ok v' w') (h : wpList P ops Q rest (a.put o.dst v') w') : wpList P ops Q (o :: rest) a w := by
  refine wpList_plain hgd fun _ hK => ?_
  unfold Oper.wp execOp
  simp only [ho, resolve, invoke, builtin, Sem.run_bind, Sem.run_pure, Result.andThen_ok, List.map_toArray, List.map_cons, List.map_nil, hd, hs, hr]
  exact hK _ _ h
set_option maxHeartbeats 4000000 in
set_option maxRecDepth 100000 in
/-- At the end: append. -/
theorem insert_end (v : Value) (l : List S75) (p : S75) (base vb : Nat) (w : World) (hO : OwnP w base v l) (hvb : w.heap[vb]? = some (.cells #[.string p.f0, .string p.f1] 75 (0, 0))) (hb : base ≤ w.heap.size) (hl : l.length ≤ 1000000) :
    Calls Try.prog 48 #[v, .int .i64 (l.length : Int), .slice (some ⟨vb, 0, none⟩) 1 1] w fun e w' => ∃ v', e = .returned v' ∧ OwnP w' base v' (l ++ [p]) ∧ Below base w w' := by
  obtain ⟨i0, hi, hz0, hz1, hz2⟩ := info_parts info75
  have HO := Lib.hid (ownP_iff.1 hO)
  have HP := Lib.hid hO
  have hvc : Hid (∀ j u, ([.string p.f0, .string p.f1] : List Value)[j]? = some u → w.cell? (Addr.add ⟨vb, 0, none⟩ j) = some u) := by
    refine Lib.hid fun j u hj => ?_
    rw [Addr.add_lit, Nat.zero_add, Lib.cell_of_heap hvb]
    simpa using hj
  have hfin : ∀ v' w', w'.ownsRow base 75 2 v' (l.length + 1) (cellsP l ++ [.string p.f0, .string p.f1]) → w.grownBy w' v.ownBlock → OwnP w' base v' (l ++ [p]) ∧ Below base w w' := by
    intro v' w' h1 h2
    refine ⟨ownP_iff.2 (by rw [cellsP_append, List.length_append]; exact h1), (Below.refl base w).grown h2 hb (fun k hk => ?_)⟩
    exact own_base HO.out k hk
  have HF := Lib.hid hfin
  rcases hO with ⟨rfl, rfl⟩ | ⟨g, cap, rfl, hg, hR⟩
  · clear hfin hvb
    go_enter Try.func48, Try.ntmps48
    go_wp2_with (at_builtin; refine wpList_append_own _ rfl _ _ 22 rfl base 75 i0 _ 2 32 Try.underlying22 hi hz0 hz1 hz2 rfl (by decide) _ 0 [] rfl HO.out ⟨vb, 0, none⟩ 1 1 [.string p.f0, .string p.f1] rfl rfl hvc.out (by intro u hu; rcases List.mem_cons.1 hu with rfl | hu; rfl; rcases List.mem_cons.1 hu with rfl | hu; rfl; cases hu) (by unfold maxLen; omega) (by omega) hb ?_; intro v' w1 hown hgrow hnil; have hE := Lib.hid (HF.out _ _ hown hgrow); clear hown hgrow hnil)
    go_ret
    exact ⟨_, rfl, hE.out⟩
  · have hle := hR.le
    have hmx := hR.mx
    unfold maxLen at hmx
    have hb3 : ¬ (cap = l.length) ∨ cap = l.length := by omega
    clear hfin hvb hR
    rcases hb3 with hb3 | hb3
    · go_enter Try.func48, Try.ntmps48
      go_wp2_with (at_builtin; refine wpList_append_own _ rfl _ _ 22 rfl base 75 i0 _ 2 32 Try.underlying22 hi hz0 hz1 hz2 rfl (by decide) _ l.length (cellsP l) rfl HO.out ⟨vb, 0, none⟩ 1 1 [.string p.f0, .string p.f1] rfl rfl hvc.out (by intro u hu; rcases List.mem_cons.1 hu with rfl | hu; rfl; rcases List.mem_cons.1 hu with rfl | hu; rfl; cases hu) (by unfold maxLen; omega) (by omega) hb ?_; intro v' w1 hown hgrow hnil; have hE := Lib.hid (HF.out _ _ hown hgrow); clear hown hgrow hnil)
      go_ret
      exact ⟨_, rfl, hE.out⟩
    · go_enter Try.func48, Try.ntmps48
      go_wp2_with (at_builtin; refine wpList_append_own _ rfl _ _ 22 rfl base 75 i0 _ 2 32 Try.underlying22 hi hz0 hz1 hz2 rfl (by decide) _ l.length (cellsP l) rfl HO.out ⟨vb, 0, none⟩ 1 1 [.string p.f0, .string p.f1] rfl rfl hvc.out (by intro u hu; rcases List.mem_cons.1 hu with rfl | hu; rfl; rcases List.mem_cons.1 hu with rfl | hu; rfl; cases hu) (by unfold maxLen; omega) (by omega) hb ?_; intro v' w1 hown hgrow hnil; have hE := Lib.hid (HF.out _ _ hown hgrow); clear hown hgrow hnil)
      go_ret
      exact ⟨_, rfl, hE.out⟩
set_option maxHeartbeats 4000000 in
set_option maxRecDepth 100000 in
/-- In the middle, with room: shifted in place. -/
theorem insert_shift (g cap : Nat) (l : List S75) (p : S75) (i vb : Nat) (w : World) (hR : RowP w g cap l) (hi : i < l.length) (hroom : l.length + 1 ≤ cap) (hvb : w.heap[vb]? = some (.cells #[.string p.f0, .string p.f1] 75 (0, 0))) (hne : vb ≠ g) :
    Calls Try.prog 48 #[.slice (some ⟨g, 0, none⟩) l.length cap, .int .i64 (i : Int), .slice (some ⟨vb, 0, none⟩) 1 1] w fun e w' => e = .returned (.slice (some ⟨g, 0, none⟩) (l.length + 1) cap) ∧ RowP w' g cap (l.take i ++ p :: l.drop i) ∧ Below g w w' := by
  have hcell := hR.cell
  have hsome := hR.some_
  have hfroz := hR.frozen
  have hle := hR.le
  have hmx := hR.mx
  unfold maxLen at hmx
  obtain ⟨cur, hcur, hcs, hct⟩ := hR.ex
  have hsz : (Try.prog.info? 75).map (·.size) = some 2 := by
    obtain ⟨i0, hi0, h0, h1, h2⟩ := info_parts info75
    rw [hi0]; simp [h1]
  have hvc : ∀ j u, ([.string p.f0, .string p.f1] : List Value)[j]? = some u → w.cell? (Addr.add ⟨vb, 0, none⟩ j) = some u := by
    intro j u hj
    rw [Addr.add_lit, Nat.zero_add, Lib.cell_of_heap hvb]
    simpa using hj
  have hov : ∀ lb cb, (callFunc 89 #[.slice (some ⟨vb, 0, none⟩) 1 1, .slice (some ⟨g, (i + 1) * 2, none⟩) lb cb]).run Try.prog w = .ok (.value (.bool false)) w := fun lb cb => by
    rw [run_callFunc_extern Try.func89 (by kernel_rfl) (by kernel_rfl) (by kernel_rfl) (e := Extern.SlicesOverlaps.overlaps #[22, 22] #[4]) (by kernel_rfl),
      Lib.run_overlaps_apart w 22 4 75 Try.underlying22 2 Try.sizeOf75 ⟨vb, 0, none⟩ ⟨g, (i + 1) * 2, none⟩ 1 1 lb cb hne 75 75 2 (cap * 2) (shape_cells hvb) (by rw [shape_cells hcur, hcs]) (by omega) (Lib.frozen_of_heap hvb 0) (Lib.frozen_of_heap hvb 2)]
    rfl
  have hdl : (cellsP (l.drop i)).length = (l.length - i) * 2 := by rw [cellsP_length, List.length_drop]
  obtain ⟨W1, hW1⟩ : ∃ W1, W1 = w.drew.setCells g ((i + 1) * 2) (cellsP (l.drop i)) := ⟨_, rfl⟩
  have hcp1 : ∀ ty dc sc, (Builtin.copy_ #[22, 22] ty #[.slice (some ⟨g, (i + 1) * 2, none⟩) (l.length - i) dc, .slice (some ⟨g, i * 2, none⟩) (l.length + 1 - i) sc]).run Try.prog w.drew = .ok (goInt (l.length - i : Nat)) W1 := fun ty dc sc => by
    have hmin : Nat.min (l.length + 1 - i) (l.length - i) = l.length - i := by simp only [Nat.min_def]; split <;> omega
    have := run_copy_k (P := Try.prog) w.drew 22 22 ty 75 2 g ((i + 1) * 2) (l.length - i) dc ⟨g, i * 2, none⟩ (l.length + 1 - i) sc (cellsP (l.drop i)) Try.underlying22 hsz (by rw [hmin, hdl])
      (fun j v hj => by rw [Addr.add_lit]; refine hcell _ _ ?_; rw [← cellsP_drop, List.getElem?_drop] at hj; exact hj)
      (fun j hj => hsome _ (by rw [hdl] at hj; omega)) (fun j hj => hfroz _) (cellsP_one _)
    rw [hmin, ← hW1] at this
    exact this
  obtain ⟨cur1, hc1, hc1s, hc1t⟩ := setCells_block g 75 (cellsP (l.drop i)) ((i + 1) * 2) w.drew cur hcur (by rw [hdl]; omega)
  rw [← hW1] at hc1
  have hvb1 : W1.heap[vb]? = some (.cells #[.string p.f0, .string p.f1] 75 (0, 0)) := by
    rw [hW1]
    have : ∀ (vs : List Value) (o : Nat) (W : World), (W.setCells g o vs).heap[vb]? = W.heap[vb]? := by
      intro vs
      induction vs with
      | nil => intro o W; rfl
      | cons v vs ih => intro o W; rw [World.setCells, ih]; exact Below.heap_setCell W ⟨g, o, none⟩ _ vb hne
    rw [this]
    exact hvb
  have hcp2 : ∀ ty dc, (Builtin.copy_ #[22, 22] ty #[.slice (some ⟨g, i * 2, none⟩) (l.length + 1 - i) dc, .slice (some ⟨vb, 0, none⟩) 1 1]).run Try.prog W1 = .ok (goInt (1 : Nat)) (W1.setCells g (i * 2) [.string p.f0, .string p.f1]) := fun ty dc => by
    have hmin : Nat.min 1 (l.length + 1 - i) = 1 := by simp only [Nat.min_def]; split <;> omega
    have := run_copy_k (P := Try.prog) W1 22 22 ty 75 2 g (i * 2) (l.length + 1 - i) dc ⟨vb, 0, none⟩ 1 1 [.string p.f0, .string p.f1] Try.underlying22 hsz (by rw [hmin]; rfl)
      (fun j v hj => by rw [Addr.add_lit, Nat.zero_add, Lib.cell_of_heap hvb1]; simpa using hj)
      (fun j hj => by have hj' : j < 2 := hj; rw [Lib.cell_of_heap hc1, Array.getElem?_eq_getElem (by rw [hc1s]; omega)]; rfl) (fun j hj => Lib.frozen_of_heap hc1 _) (by intro u hu; rcases List.mem_cons.1 hu with rfl | hu; rfl; rcases List.mem_cons.1 hu with rfl | hu; rfl; cases hu)
    rw [hmin] at this
    exact this
  obtain ⟨cur2, hc2, hc2s, hc2t⟩ := setCells_block g 75 [.string p.f0, .string p.f1] (i * 2) W1 cur1 hc1 (by rw [hc1s]; simp; omega)
  have hfin : RowP (W1.setCells g (i * 2) [.string p.f0, .string p.f1]) g cap (l.take i ++ p :: l.drop i) := by
    refine ⟨⟨cur2, hc2, by rw [hc2s, hc1s, hcs], ?_⟩, by simp; omega, hR.mx⟩
    have e1 : (l.take i ++ p :: l.drop i).length = l.length + 1 := by simp; omega
    have e2 : cur.toList.length = cap * 2 := by rw [Array.length_toList, hcs]
    have e3 : cur.toList.take (i * 2) = cellsP (l.take i) := by
      rw [← cellsP_take, ← hct, List.take_take]
      congr 1
      omega
    have e3l : (cellsP (l.take i)).length = i * 2 := by rw [cellsP_length, List.length_take]; omega
    have e4 : cur1.toList.take (i * 2) = cellsP (l.take i) := by
      rw [hc1t, List.append_assoc, List.take_append_of_le_length (by rw [List.length_take, e2]; omega), List.take_take, Nat.min_eq_left (by omega), e3]
    have e5 : cur1.toList.drop (i * 2 + 2) = cellsP (l.drop i) ++ cur.toList.drop ((i + 1) * 2 + (cellsP (l.drop i)).length) := by
      have hl1 : (cur.toList.take ((i + 1) * 2)).length = (i + 1) * 2 := by rw [List.length_take, e2]; omega
      rw [hc1t, List.append_assoc, List.drop_append_of_le_length (by rw [hl1]; omega), List.drop_of_length_le (by rw [hl1]; omega), List.nil_append]
    rw [e1, hc2t, e4, show ([Value.string p.f0, Value.string p.f1] : List Value).length = 2 from rfl, e5, cellsP_append, cellsP_cons]
    have e6 : (cellsP (l.take i) ++ [Value.string p.f0, Value.string p.f1] ++ cellsP (l.drop i)).length = (l.length + 1) * 2 := by rw [List.length_append, List.length_append, e3l, hdl]; simp; omega
    rw [← List.append_assoc, List.take_append_of_le_length (by omega), List.take_of_length_le (by omega), List.append_assoc]
  have hbel : Below g w (W1.setCells g (i * 2) [.string p.f0, .string p.f1]) := by
    refine below_setCells g _ _ _ ?_
    rw [hW1]
    exact below_setCells g _ _ _ (below_drew1 (Below.refl g w))
  have hFin := Lib.hid hfin
  have hBel := Lib.hid hbel
  have hb1 : (0 : Int) ≤ (i : Int) + 1 := by omega
  have hin : i ≤ l.length := by omega
  have htn : ((i : Int) + 1).toNat = i + 1 := by omega
  have hb2 : ¬ (cap = i + 1) := by omega
  have hb3 : (i : Int) + 1 ≤ (l.length : Int) + 1 := by omega
  have hb4 : ¬ (cap = i) := by omega
  have hb5 : ¬ ((i : Int) = (l.length : Int)) := by omega
  have hb6 : l.length + 1 ≤ cap := hroom
  have hb7 : ¬ ((cap : Int) < (l.length : Int) + 1) := by omega
  have hb8 : (l.length : Int) + 1 ≤ (cap : Int) := by omega
  have htm : ((l.length : Int) + 1).toNat = l.length + 1 := by omega
  have hb9 : (i : Int) ≤ (l.length : Int) + 1 := by omega
  have hw1 : IntKind.i64.wrap ((i : Int) + 1) = (i : Int) + 1 := by rw [IntKind.wrap_i64]; omega
  clear hc1 hc1s hc1t hc2 hc2s hc2t hfin hbel hcell hsome hfroz hcur hcs hct hR hvb hvb1 hvc hdl hW1
  go_enter Try.func48, Try.ntmps48
  go_wp2_with (simp only [hov])
  go_region_law (refine step_copy_k rfl _ _ 22 22 rfl _ _ (by simp [Act.eval, Act.put]) (by simp [Act.eval, Act.put]) (hcp1 _ _ _) ?_)
  go_wp2_with (at_builtin; refine wpList_copy_k _ rfl _ _ 22 22 rfl _ _ rfl rfl (hcp2 _ _) ?_)
  go_ret
  exact ⟨rfl, hFin.out, hBel.out⟩
set_option maxHeartbeats 4000000 in
set_option maxRecDepth 100000 in
/-- In the middle, without room: a new row. -/
theorem insert_grow (g : Nat) (l : List S75) (p : S75) (i vb : Nat) (w : World) (hR : RowP w g l.length l) (hi : i < l.length) (hvb : w.heap[vb]? = some (.cells #[.string p.f0, .string p.f1] 75 (0, 0))) (hl : l.length ≤ 1000000) :
    Calls Try.prog 48 #[.slice (some ⟨g, 0, none⟩) l.length l.length, .int .i64 (i : Int), .slice (some ⟨vb, 0, none⟩) 1 1] w fun e w' => ∃ G, e = .returned (.slice (some ⟨w.heap.size, 0, none⟩) (l.length + 1) G) ∧ RowP w' w.heap.size G (l.take i ++ p :: l.drop i) ∧ Below w.heap.size w w' := by
  have hcell := hR.cell
  have hmx := hR.mx
  unfold maxLen at hmx
  obtain ⟨cur, hcur, hcs, hct⟩ := hR.ex
  obtain ⟨i0, hi0, hz0, hz1, hz2⟩ := info_parts info75
  have hsz : (Try.prog.info? 75).map (·.size) = some 2 := by rw [hi0]; simp [hz1]
  have hbw : g < w.heap.size := blk_lt hcur
  have hvw : vb < w.heap.size := blk_lt hvb
  obtain ⟨n, hn⟩ : ∃ n, n = l.length := ⟨_, rfl⟩
  have hkk : (n : Int) + 1 - (i : Int) = ((n + 1 - i : Nat) : Int) := by omega
  have hik : i + (n + 1 - i) = n + 1 := by omega
  have hold : (Builtin.firstCells i0.size i (.slice (some ⟨g, 0, none⟩) i n)).run Try.prog w.drew = .ok (cellsP (l.take i)).toArray w.drew := by
    rw [hz1]
    exact run_firstCells_some w.drew 2 i ⟨g, 0, none⟩ i n (cellsP (l.take i)) (by rw [cellsP_length, List.length_take]; omega) (fun j v hj => by
      rw [Addr.add_lit, Nat.zero_add]
      rw [← cellsP_take, List.getElem?_take] at hj
      split at hj
      · exact hcell j v hj
      · cases hj)
  obtain ⟨G, hG⟩ : ∃ G, G = grownCap w (n + 1) n 75 := ⟨_, rfl⟩
  obtain ⟨Z, hZ⟩ : ∃ Z : Value, Z = (.agg #[.string ⟨#[]⟩, .string ⟨#[]⟩] : Value) := ⟨_, rfl⟩
  have hZc : Z.cells.size = 2 := by rw [hZ]; rfl
  obtain ⟨ROW, hROW⟩ : ∃ ROW : Array Value, ROW = (cellsP (l.take i)).toArray ++ Builtin.zeroCells Z.cells (n + 1 - i) ++ Builtin.zeroCells Z.cells (G - (n + 1)) := ⟨_, rfl⟩
  have hGn : n + 1 ≤ G := by rw [hG]; exact grownCap_ge w _ _ _
  have hRl : ROW.size = G * 2 := by
    rw [hROW]
    simp [Builtin.zeroCells, hZc, cellsP_length]
    omega
  have hRt : ROW.toList.take (i * 2) = cellsP (l.take i) := by
    rw [hROW]
    simp only [Array.toList_append, List.append_assoc]
    rw [List.take_append_of_le_length (by rw [cellsP_length, List.length_take]; omega), List.take_of_length_le (by rw [cellsP_length, List.length_take]; omega)]
  obtain ⟨W1, hW1⟩ : ∃ W1, W1 = w.drew.alloc (.cells ROW 75) := ⟨_, rfl⟩
  have hrz : ∀ ty, (Builtin.append_ #[22, 3] ty #[.slice (some ⟨g, 0, none⟩) i n, .int .i64 ((n : Int) + 1 - (i : Int))]).run Try.prog w = .ok (.slice (some ⟨w.heap.size, 0, none⟩) (n + 1) G) W1 := fun ty => by
    have h := Lib.run_append_grow_zeros w 22 3 ty 75 i0 Z .i64 .i64 Try.underlying22 Try.underlying3 hi0 (by rw [hz0, hZ]) (some ⟨g, 0, none⟩) i n (cellsP (l.take i)) hold (n + 1 - i) (by omega) (by omega) (by omega) (by omega) (by rw [hz2]; omega) (by rw [hz2, hik]; exact growslice_fits (by omega) (by omega))
    rw [hik, ← hG, ← hROW, ← hW1] at h
    rw [hkk]
    exact h
  have hW1s : W1.heap[w.heap.size]? = some (.cells ROW 75 (0, 0)) := by rw [hW1]; exact blk_new w.drew (.cells ROW 75)
  have hW1v : W1.heap[vb]? = some (.cells #[.string p.f0, .string p.f1] 75 (0, 0)) := by rw [hW1]; exact blk_alloc (w := w.drew) hvb _
  have hW1g : W1.heap[g]? = some (.cells cur 75 (0, 0)) := by rw [hW1]; exact blk_alloc (w := w.drew) hcur _
  obtain ⟨cur1, hc1, hc1s, hc1t⟩ := setCells_block w.heap.size 75 [.string p.f0, .string p.f1] (i * 2) W1 ROW hW1s (by rw [hRl]; simp; omega)
  obtain ⟨W2, hW2⟩ : ∃ W2, W2 = W1.setCells w.heap.size (i * 2) [.string p.f0, .string p.f1] := ⟨_, rfl⟩
  rw [← hW2] at hc1
  have hcpA : ∀ ty dc, (Builtin.copy_ #[22, 22] ty #[.slice (some ⟨w.heap.size, i * 2, none⟩) (n + 1 - i) dc, .slice (some ⟨vb, 0, none⟩) 1 1]).run Try.prog W1 = .ok (goInt (1 : Nat)) W2 := fun ty dc => by
    have hmin : Nat.min 1 (n + 1 - i) = 1 := by simp only [Nat.min_def]; split <;> omega
    have := run_copy_k (P := Try.prog) W1 22 22 ty 75 2 w.heap.size (i * 2) (n + 1 - i) dc ⟨vb, 0, none⟩ 1 1 [.string p.f0, .string p.f1] Try.underlying22 hsz (by rw [hmin]; rfl)
      (fun j v hj => by rw [Addr.add_lit, Nat.zero_add, Lib.cell_of_heap hW1v]; simpa using hj)
      (fun j hj => by have hj' : j < 2 := hj; rw [Lib.cell_of_heap hW1s, Array.getElem?_eq_getElem (by rw [hRl]; omega)]; rfl) (fun j hj => Lib.frozen_of_heap hW1s _) (by intro u hu; rcases List.mem_cons.1 hu with rfl | hu; rfl; rcases List.mem_cons.1 hu with rfl | hu; rfl; cases hu)
    rw [hmin, ← hW2] at this
    exact this
  have hW2g : W2.heap[g]? = some (.cells cur 75 (0, 0)) := by
    rw [hW2]
    show ((W1.setCell ⟨w.heap.size, i * 2, none⟩ _).setCell ⟨w.heap.size, i * 2 + 1, none⟩ _).heap[g]? = _
    rw [Below.heap_setCell _ _ _ g (by show g ≠ w.heap.size; omega), Below.heap_setCell _ _ _ g (by show g ≠ w.heap.size; omega)]
    exact hW1g
  have hdl : (cellsP (l.drop i)).length = (n - i) * 2 := by rw [cellsP_length, List.length_drop, hn]
  obtain ⟨W3, hW3⟩ : ∃ W3, W3 = W2.drew.setCells w.heap.size ((i + 1) * 2) (cellsP (l.drop i)) := ⟨_, rfl⟩
  have hcpB : ∀ ty dc sc, (Builtin.copy_ #[22, 22] ty #[.slice (some ⟨w.heap.size, (i + 1) * 2, none⟩) (n + 1 - (i + 1)) dc, .slice (some ⟨g, i * 2, none⟩) (n - i) sc]).run Try.prog W2.drew = .ok (goInt (n - i : Nat)) W3 := fun ty dc sc => by
    have hmin : Nat.min (n - i) (n + 1 - (i + 1)) = n - i := by simp only [Nat.min_def]; split <;> omega
    have := run_copy_k (P := Try.prog) W2.drew 22 22 ty 75 2 w.heap.size ((i + 1) * 2) (n + 1 - (i + 1)) dc ⟨g, i * 2, none⟩ (n - i) sc (cellsP (l.drop i)) Try.underlying22 hsz (by rw [hmin, hdl])
      (fun j v hj => by
        rw [Addr.add_lit]
        show W2.cell? _ = _
        rw [Lib.cell_of_heap hW2g, ← Array.getElem?_toList]
        rw [← cellsP_drop, List.getElem?_drop, ← hct, List.getElem?_take] at hj
        split at hj
        · exact hj
        · cases hj)
      (fun j hj => by show (W2.cell? _).isSome = true; rw [hdl] at hj; rw [Lib.cell_of_heap hc1, Array.getElem?_eq_getElem (by rw [hc1s, hRl]; omega)]; rfl) (fun j hj => Lib.frozen_of_heap (w := W2) hc1 _) (cellsP_one _)
    rw [hmin, ← hW3] at this
    exact this
  obtain ⟨cur2, hc2, hc2s, hc2t⟩ := setCells_block w.heap.size 75 (cellsP (l.drop i)) ((i + 1) * 2) W2.drew cur1 hc1 (by rw [hc1s, hRl, hdl]; omega)
  rw [← hW3] at hc2
  have hG63 : G ≤ maxLen := by
    have := grownCap_le_maxLen w (n + 1) n 75 (by unfold maxLen; omega)
    rw [← hG] at this
    exact this
  have hfin : RowP W3 w.heap.size G (l.take i ++ p :: l.drop i) := by
    refine ⟨⟨cur2, hc2, by rw [hc2s, hc1s, hRl], ?_⟩, by simp; omega, hG63⟩
    have e1 : (l.take i ++ p :: l.drop i).length = n + 1 := by simp; omega
    have e2 : cur1.toList.length = G * 2 := by rw [Array.length_toList, hc1s, hRl]
    have e2r : ROW.toList.length = G * 2 := by rw [Array.length_toList, hRl]
    have e3l : (cellsP (l.take i)).length = i * 2 := by rw [cellsP_length, List.length_take]; omega
    have e4 : cur1.toList.take ((i + 1) * 2) = cellsP (l.take i) ++ [.string p.f0, .string p.f1] := by
      rw [hc1t, hRt, List.take_append_of_le_length (by rw [List.length_append, e3l]; simp; omega), List.take_of_length_le (by rw [List.length_append, e3l]; simp; omega)]
    rw [e1, hc2t, e4, cellsP_append, cellsP_cons]
    have e6 : (cellsP (l.take i) ++ [Value.string p.f0, Value.string p.f1] ++ cellsP (l.drop i)).length = (n + 1) * 2 := by rw [List.length_append, List.length_append, e3l, hdl]; simp; omega
    rw [List.take_append_of_le_length (by omega), List.take_of_length_le (by omega), List.append_assoc]
  have hbel : Below w.heap.size w W3 := by
    rw [hW3]
    refine below_setCells _ _ _ _ (below_drew1 ?_)
    rw [hW2]
    refine below_setCells _ _ _ _ ?_
    rw [hW1]
    exact (below_drew1 (Below.refl w.heap.size w)).alloc (Nat.le_refl _) _
  have hFin := Lib.hid hfin
  have hBel := Lib.hid hbel
  have hGi : ¬ (G = i) := by omega
  have hGim : ¬ (G = i + 1) := by omega
  have hci : ¬ (n = i) := by omega
  have hni : ¬ ((i : Int) = (n : Int)) := by omega
  have hlt : (n : Int) < (n : Int) + 1 := by omega
  have hin : i ≤ n := by omega
  have hb1 : (0 : Int) ≤ (i : Int) + 1 := by omega
  have htn : ((i : Int) + 1).toNat = i + 1 := by omega
  have hb3 : (i : Int) ≤ (n : Int) := by omega
  have hb4 : (i : Int) + 1 ≤ (n : Int) + 1 := by omega
  have hb5 : (i : Int) ≤ (n : Int) + 1 := by omega
  have hn6 : n ≤ 1000000 := by omega
  have hG6 : G ≤ 9223372036854775807 := by unfold maxLen at hG63; omega
  have hw1 : IntKind.i64.wrap ((i : Int) + 1) = (i : Int) + 1 := by rw [IntKind.wrap_i64]; omega
  rw [← hn]
  clear hkk hik hold hROW hG hRl hRt hW1s hW1v hW1g hc1 hc1s hc1t hc2 hc2s hc2t hW2g hdl hfin hbel hcell hcur hcs hct hR hvb hZ hZc hG63 hW1 hW2 hW3 hn hl hmx hi0 hz0 hz1 hz2 hsz
  go_enter Try.func48, Try.ntmps48
  go_wp2_with (first
    | (at_builtin; refine Lib.wpList_append_run _ rfl _ _ _ _ rfl _ _ rfl rfl _ _ (hrz _) ?_)
    | (at_builtin; refine wpList_copy_k _ rfl _ _ 22 22 rfl _ _ rfl rfl (hcpA _ _) ?_))
  go_region_law (refine step_copy_k rfl _ _ 22 22 rfl (.slice (some ⟨w.heap.size, (i + 1) * 2, none⟩) (n + 1 - (i + 1)) (G - (i + 1))) (.slice (some ⟨g, i * 2, none⟩) (n - i) (n - i)) (by simp [Act.eval, Act.put]) (by simp [Act.eval, Act.put]) (hcpB 3 (G - (i + 1)) (n - i)) ?_)
  go_wp2
  go_ret
  exact ⟨G, rfl, hFin.out, hBel.out⟩
/-- slices.Insert of one pair into a row of the call's own. -/
theorem insert_calls (v : Value) (l : List S75) (p : S75) (i base vb : Nat) (w : World) (hO : OwnP w base v l) (hi : i ≤ l.length) (hvb : w.heap[vb]? = some (.cells #[.string p.f0, .string p.f1] 75 (0, 0))) (hne : some vb ≠ v.ownBlock) (hb : base ≤ w.heap.size) (hl : l.length ≤ 1000000) :
    Calls Try.prog 48 #[v, .int .i64 (i : Int), .slice (some ⟨vb, 0, none⟩) 1 1] w fun e w' => ∃ v', e = .returned v' ∧ OwnP w' base v' (l.take i ++ p :: l.drop i) ∧ Below base w w' := by
  rcases Nat.lt_or_ge i l.length with h | h
  · rcases hO with ⟨rfl, rfl⟩ | ⟨g, cap, rfl, hg, hR⟩
    · simp at h
    · have hne' : vb ≠ g := fun e => hne (by rw [e]; rfl)
      have hle := hR.le
      have e1 : (l.take i ++ p :: l.drop i).length = l.length + 1 := by simp; omega
      by_cases hr : l.length + 1 ≤ cap
      · refine (insert_shift g cap l p i vb w hR h hr hvb hne').mono ?_
        rintro e w' ⟨rfl, h1, h2⟩
        exact ⟨_, rfl, .inr ⟨g, cap, by rw [e1], hg, h1⟩, h2.mono hg⟩
      · obtain rfl : cap = l.length := by omega
        refine (insert_grow g l p i vb w hR h hvb hl).mono ?_
        rintro e w' ⟨G, rfl, h1, h2⟩
        exact ⟨_, rfl, .inr ⟨_, G, by rw [e1], hb, h1⟩, h2.mono hb⟩
  · obtain rfl : i = l.length := by omega
    have e2 : l.take l.length ++ p :: l.drop l.length = l ++ [p] := by simp
    rw [e2]
    exact insert_end v l p base vb w hO hvb hb hl
def Try.lays106_ren : Go.Shelf.Ren := ⟨fun | 106 => 88 | 213 => 112 | 265 => 126 | n => n, fun | 3 => 3 | 9 => 9 | n => n, fun | n => n⟩
theorem Try.lays106 : Go.Proofs.Lays.n106 Try.prog Try.lays106_ren := {
  mixed := by kernel_rfl
  f106 := Try.func88.trans (congrArg some (by kernel_rfl))
  f213 := Try.func112.trans (congrArg some (by kernel_rfl))
  f265 := Try.func126.trans (congrArg some (by kernel_rfl))
  t3 := Try.underlying3
  a3 := Try.isAgg3
  z3 := Try.sizeOf3
  v3 := Try.zeroValue3
  t9 := Try.underlying9
  a9 := Try.isAgg9
  z9 := Try.sizeOf9
  v9 := Try.zeroValue9 }
theorem compare_calls (a b : ByteArray) (w : World) : Calls Try.prog 88 #[.string a, .string b] w fun e w' => e = .returned (.int .i64 (Lib.compareBytes a.data.toList b.data.toList)) ∧ w = w' :=
  (Any.strings_Compare Try.lays106 a b w).mono fun _ _ h => ⟨h.1, h.2.symm⟩
def cmpP (p : S75) (key : ByteArray) : Int := Lib.compareBytes p.f0.data.toList key.data.toList
set_option maxHeartbeats 1000000 in
theorem find1_calls (p : S75) (key : ByteArray) (w : World) : Calls Try.prog 87 #[.agg #[.string p.f0, .string p.f1], .string key] w fun e w' => e = .returned (.int .i64 (cmpP p key)) ∧ Below w.heap.size w w' := by
  have hu := Try.underlying75
  go_enter Try.func87, Try.ntmps87
  go_wp2_with (go_at_call 88; refine (compare_calls _ _ _).mono ?_; rintro e w' ⟨rfl, rfl⟩)
  go_ret
  exact ⟨rfl, (Below.refl _ _).alloc (Nat.le_refl _) _⟩
/-- Where the search comes to rest: the loop's two ends. -/
def bsF (l : List S75) (key : ByteArray) : Nat → Nat → Nat → Nat
  | 0, i, _ => i
  | n + 1, i, j => if i < j then (if cmpP (rd_T75 l ((i + j) / 2 : Nat)) key < 0 then bsF l key n ((i + j) / 2 + 1) j else bsF l key n i ((i + j) / 2)) else i
theorem bsF_le (l : List S75) (key : ByteArray) : ∀ n i j, i ≤ j → bsF l key n i j ≤ j
  | 0, i, j, h => h
  | n + 1, i, j, h => by
    rw [bsF]
    by_cases c : i < j
    · rw [if_pos c]
      split
      · exact bsF_le l key n _ _ (by omega)
      · exact Nat.le_trans (bsF_le l key n _ _ (by omega)) (by omega)
    · rw [if_neg c]; exact h
def isF (l : List S75) (key : ByteArray) (i : Nat) : Bool := decide (i < l.length) && (cmpP (rd_T75 l (i : Nat)) key == 0)
set_option maxHeartbeats 4000000 in
set_option maxRecDepth 100000 in
theorem bsearch_calls (A : Option Addr) (c : Nat) (l : List S75) (key : ByteArray) (w : World) (hr : Kd.C k75 w A l.length l) (hl : l.length ≤ 1000000) :
    Calls Try.prog 86 #[.slice A l.length c, .string key, .func (.func 87) #[] #[]] w fun e w' => e = .returned (.tuple #[.int .i64 (bsF l key l.length 0 l.length : Nat), .bool (isF l key (bsF l key l.length 0 l.length))]) ∧ Below w.heap.size w w' := by
  have HR := Aside0.mk hr
  have HL := Aside0.mk hl
  clear hr hl
  have hu := Try.underlying75
  obtain ⟨R, hR⟩ : ∃ R, R = bsF l key l.length 0 l.length := ⟨_, rfl⟩
  rw [← hR]
  have HRr := Aside0.mk hR
  clear hR
  obtain ⟨BB, hBB⟩ : ∃ BB, BB = isF l key R := ⟨_, rfl⟩
  rw [← hBB]
  have HBB := Aside0.mk hBB
  clear hBB
  go_enter Try.func86, Try.ntmps86
  go_wp2
  go_loopw [9, 10] (fun u9 u10 wr => ∃ i j n : Nat, u9 = .int .i64 (i : Int) ∧ u10 = .int .i64 (j : Int) ∧ Aside0 (i ≤ j ∧ j ≤ l.length ∧ j - i ≤ n ∧ bsF l key n i j = R) ∧ Aside0 (Below w.heap.size w wr)) (fun u9 u10 _ => (intOf u10 - intOf u9).toNat)
  case atStart => exact ⟨0, l.length, l.length, rfl, rfl, ⟨by omega, by omega, by omega, HRr.out.symm⟩, ⟨Below.refl _ _⟩⟩
  case round =>
    obtain ⟨i, j, n, rfl, rfl, HI, HB⟩ := hrel
    obtain ⟨h1, h2, h3, h4⟩ := HI.out
    have h5 := HL.out
    clear HI HRr
    by_cases hlt : i < j
    · cases n with
      | zero => omega
      | succ n =>
        rw [bsF, if_pos hlt] at h4
        obtain ⟨h, hh⟩ : ∃ h, h = (i + j) / 2 := ⟨_, rfl⟩
        rw [← hh] at h4
        have hih : i ≤ h := by omega
        have hhj : h < j := by omega
        have H4 := Aside0.mk h4
        have HH := Aside0.mk hh
        clear h4 hh
        have p1 : 0 ≤ (h : Int) := by omega
        have q1 : (h : Int) < (l.length : Int) := by omega
        obtain ⟨ad, e1, hx0, hx1⟩ := at_T75 (Kd.C_below HR.out HB.out) (h : Int) p1 q1
        cases e1
        simp only [Int.toNat_natCast] at hx0 hx1
        have c1 : decide ((i : Int) < (j : Int)) = true := decide_eq_true (by omega)
        have c2 : decide (i < j) = true := decide_eq_true hlt
        have hhI : ((i : Int) + (j : Int)) / 2 = (h : Int) := by have := HH.out; omega
        by_cases hc : cmpP (rd_T75 l (h : Int)) key < 0
        · have d1 : decide (cmpP (rd_T75 l (h : Int)) key < 0) = true := decide_eq_true hc
          have H5 : Aside0 (bsF l key n (h + 1) j = R) := ⟨by have := H4.out; rw [if_pos hc] at this; exact this⟩
          clear hc H4
          go_wp2_with (go_at_call 87; refine (find1_calls (rd_T75 l (h : Int)) key _).mono ?_; rintro e w2 ⟨rfl, hb⟩; have HB2 := Aside0.mk (below_step HB.out hb); clear hb hx0 hx1)
          go_roundw
          case rel => exact ⟨h + 1, j, n, by go_num, rfl, ⟨by omega, by omega, by omega, H5.out⟩, HB2⟩
          case measure => simp [intOf]; omega
        · have d1 : decide (cmpP (rd_T75 l (h : Int)) key < 0) = false := decide_eq_false hc
          have H5 : Aside0 (bsF l key n i h = R) := ⟨by have := H4.out; rw [if_neg hc] at this; exact this⟩
          clear hc H4
          go_wp2_with (go_at_call 87; refine (find1_calls (rd_T75 l (h : Int)) key _).mono ?_; rintro e w2 ⟨rfl, hb⟩; have HB2 := Aside0.mk (below_step HB.out hb); clear hb hx0 hx1)
          go_roundw
          case rel => exact ⟨i, h, n, rfl, rfl, ⟨by omega, by omega, by omega, H5.out⟩, HB2⟩
          case measure => simp [intOf]; omega
    · have hR : R = i := by
        cases n with
        | zero => exact h4.symm
        | succ n => rw [bsF, if_neg hlt] at h4; exact h4.symm
      subst hR
      have c1 : decide ((R : Int) < (j : Int)) = false := decide_eq_false (by omega)
      have c2 : decide (R < j) = false := decide_eq_false hlt
      clear h4
      by_cases hRl : R < l.length
      · have e1 : decide ((R : Int) < (l.length : Int)) = true := decide_eq_true (by omega)
        have e2 : decide (R < l.length) = true := decide_eq_true hRl
        have p1 : 0 ≤ (R : Int) := by omega
        have q1 : (R : Int) < (l.length : Int) := by omega
        obtain ⟨ad, e3, hx0, hx1⟩ := at_T75 (Kd.C_below HR.out HB.out) (R : Int) p1 q1
        cases e3
        simp only [Int.toNat_natCast] at hx0 hx1
        have hF : isF l key R = (cmpP (rd_T75 l (R : Int)) key == 0) := by unfold isF; rw [e2, Bool.true_and]
        have HF := Aside0.mk hF
        clear hF
        go_wp2_with (go_at_call 87; refine (find1_calls (rd_T75 l (R : Int)) key _).mono ?_; rintro e w2 ⟨rfl, hb⟩; have HB2 := Aside0.mk (below_step HB.out hb); clear hb hx0 hx1)
        go_ret2
        exact ⟨by rw [HBB.out, HF.out]; rfl, HB2.out⟩
      · have e1 : decide ((R : Int) < (l.length : Int)) = false := decide_eq_false (by omega)
        have e2 : decide (R < l.length) = false := decide_eq_false hRl
        have hF : isF l key R = false := by unfold isF; rw [e2]; rfl
        have HF := Aside0.mk hF
        clear hF
        go_wp2
        go_ret2
        exact ⟨by rw [HBB.out, HF.out]; rfl, HB.out⟩
set_option maxHeartbeats 1000000 in
theorem find_calls (A : Option Addr) (c : Nat) (l : List S75) (key : ByteArray) (w : World) (hr : Kd.C k75 w A l.length l) (hl : l.length ≤ 1000000) :
    Calls Try.prog 46 #[.slice A l.length c, .string key] w fun e w' => e = .returned (.tuple #[.int .i64 (bsF l key l.length 0 l.length : Nat), .bool (isF l key (bsF l key l.length 0 l.length))]) ∧ Below w.heap.size w w' := by
  have HR := Aside0.mk hr
  have HL := Aside0.mk hl
  clear hr hl
  go_enter Try.func46, Try.ntmps46
  go_wp2_with (go_at_call 86; refine (bsearch_calls A c l key _ HR.out HL.out).mono ?_; rintro e w' ⟨rfl, hb⟩; have HB := Aside0.mk hb; clear hb)
  go_ret2
  exact ⟨rfl, HB.out⟩
/-- A change more: what is found by the search, and what is done there. -/
def stepF (K : Nat) (l : List S75) (c : S42) : Option (List S75) :=
  (dir_alone.f K c.f0 c.f1 c.f2).bind fun a => if a = true then
    (if isF l c.f0 (bsF l c.f0 l.length 0 l.length) = true then (if c.f2 = true then some (l.take (bsF l c.f0 l.length 0 l.length) ++ l.drop (bsF l c.f0 l.length 0 l.length + 1)) else some (l.set (bsF l c.f0 l.length 0 l.length) ⟨(rd_T75 l (bsF l c.f0 l.length 0 l.length : Nat)).f0, c.f1⟩))
     else (if c.f2 = true then some l else some (l.take (bsF l c.f0 l.length 0 l.length) ++ ⟨c.f0, c.f1⟩ :: l.drop (bsF l c.f0 l.length 0 l.length)))) else some l
def foldF (K : Nat) : List S42 → List S75 → Option (List S75)
  | [], l => some l
  | c :: cs, l => if l.length ≤ 900000 then (stepF K l c).bind (foldF K cs) else none
theorem isF_lt {l : List S75} {key : ByteArray} {i : Nat} (h : isF l key i = true) : i < l.length := by
  unfold isF at h
  simp only [Bool.and_eq_true, decide_eq_true_eq] at h
  exact h.1
theorem cellsP_at (l : List S75) (i : Nat) (h : i < l.length) : (cellsP l)[i * 2]? = some (.string l[i].f0) ∧ (cellsP l)[i * 2 + 1]? = some (.string l[i].f1) := by
  have h2 : (cellsP l).drop (i * 2) = [.string l[i].f0, .string l[i].f1] ++ cellsP (l.drop (i + 1)) := by
    rw [cellsP_drop, List.drop_eq_getElem_cons h, cellsP_cons]
  have h3 : ∀ j, (cellsP l)[i * 2 + j]? = ((cellsP l).drop (i * 2))[j]? := fun j => by rw [List.getElem?_drop]
  constructor
  · have := h3 0; rw [Nat.add_zero] at this; rw [this, h2]; rfl
  · rw [h3 1, h2]; rfl
theorem cellsP_set (l : List S75) (i : Nat) (h : i < l.length) (v : ByteArray) : cellsP (l.set i ⟨l[i].f0, v⟩) = (cellsP l).set (i * 2 + 1) (.string v) := by
  have e1 : l.set i ⟨l[i].f0, v⟩ = l.take i ++ ⟨l[i].f0, v⟩ :: l.drop (i + 1) := by rw [List.set_eq_take_append_cons_drop, if_pos h]
  have e2 : l = l.take i ++ l[i] :: l.drop (i + 1) := by rw [← List.drop_eq_getElem_cons h, List.take_append_drop]
  have e3 : cellsP l = cellsP (l.take i) ++ ([.string l[i].f0, .string l[i].f1] ++ cellsP (l.drop (i + 1))) := by
    have : cellsP l = cellsP (l.take i ++ l[i] :: l.drop (i + 1)) := by rw [← e2]
    rw [this, cellsP_append, cellsP_cons]
  rw [e1, cellsP_append, cellsP_cons, e3, List.set_append_right _ _ (by rw [cellsP_length, List.length_take]; omega)]
  have e4 : i * 2 + 1 - (cellsP (l.take i)).length = 1 := by rw [cellsP_length, List.length_take]; omega
  rw [e4]
  rfl
theorem RowP.setv {W : World} {g cap : Nat} {l : List S75} (h : RowP W g cap l) (i : Nat) (hi : i < l.length) (v : ByteArray) : RowP (W.setCell ⟨g, i * 2 + 1, none⟩ (.string v)) g cap (l.set i ⟨l[i].f0, v⟩) := by
  obtain ⟨⟨cur, h1, h2, h3⟩, h4, h5⟩ := h
  refine ⟨⟨cur.setIfInBounds (i * 2 + 1) (.string v), by rw [heap_setCell_same _ _ _ _ _ _ h1], by rw [Array.size_setIfInBounds, h2], ?_⟩, by rw [List.length_set]; exact h4, h5⟩
  rw [List.length_set, cellsP_set l i hi, Array.toList_setIfInBounds, List.take_set, h3]
theorem rd_getElem (l : List S75) (i : Nat) (h : i < l.length) : rd_T75 l (i : Int) = l[i] := by
  unfold rd_T75
  rw [Int.toNat_natCast, List.getD_eq_getElem?_getD, List.getElem?_eq_getElem h]
  rfl
theorem rd_changes (l : List S42) (x : Nat) (h : x < l.length) : rd_T42 l (x : Int) = l[x] := by
  unfold rd_T42
  rw [Int.toNat_natCast, List.getD_eq_getElem?_getD, List.getElem?_eq_getElem h]
  rfl
theorem rowP_C {W : World} {g cap : Nat} {l : List S75} (h : RowP W g cap l) : Kd.C k75 W (some ⟨g, 0, none⟩) l.length l := by
  obtain ⟨A, c, he, hl, hC⟩ := ownP_C (base := 0) (v := .slice (some ⟨g, 0, none⟩) l.length cap) (.inr ⟨g, cap, rfl, Nat.zero_le _, h⟩)
  injection he with h1 h2 h3
  rw [h1]; exact hC
theorem ownP_C2 {W : World} {base : Nat} {A : Option Addr} {n c : Nat} {l : List S75} (h : OwnP W base (.slice A n c) l) : Kd.C k75 W A l.length l := by
  obtain ⟨A', c', he, hl, hC⟩ := ownP_C h
  injection he with h1 h2 h3
  rw [h1]; exact hC
theorem ownP_some {W : World} {base : Nat} {A : Option Addr} {n c : Nat} {l : List S75} (h : OwnP W base (.slice A n c) l) (h0 : 0 < l.length) : ∃ g, A = some ⟨g, 0, none⟩ ∧ base ≤ g ∧ RowP W g c l := by
  rcases h with ⟨_, rfl⟩ | ⟨g, cap, he, hg, hR⟩
  · simp at h0
  · injection he with h1 h2 h3
    subst h3
    exact ⟨g, h1, hg, hR⟩
theorem ownP_del {W : World} {base g c i : Nat} {l : List S75} (hi : i < l.length) (hg : base ≤ g) (h : RowP W g c (l.take i ++ l.drop (i + 1))) : OwnP W base (.slice (some ⟨g, 0, none⟩) (l.length - 1) c) (l.take i ++ l.drop (i + 1)) := by
  have e : (l.take i ++ l.drop (i + 1)).length = l.length - 1 := by rw [List.length_append, List.length_take, List.length_drop]; omega
  exact .inr ⟨g, c, by rw [e], hg, h⟩
theorem ownP_set {W : World} {base g c i : Nat} {l : List S75} (hi : i < l.length) (hg : base ≤ g) (h : RowP W g c l) (v : ByteArray) : OwnP (W.setCell ⟨g, i * 2 + 1, none⟩ (.string v)) base (.slice (some ⟨g, 0, none⟩) l.length c) (l.set i ⟨(rd_T75 l (i : Nat)).f0, v⟩) := by
  rw [rd_getElem l i hi]
  exact .inr ⟨g, c, by rw [List.length_set], hg, h.setv i hi v⟩
theorem insert_any {W : World} {base i : Nat} {v : Value} {l : List S75} (hO : OwnP W base v l) (hi : i ≤ l.length) (p0 p1 : ByteArray) (hb : base ≤ W.heap.size) (hl : l.length ≤ 1000000) :
    Calls Try.prog 48 #[v, .int .i64 (i : Int), .slice (some ⟨W.heap.size, 0, none⟩) 1 1] (W.alloc (.cells #[.string p0, .string p1] 75)) fun e w' => ∃ v', e = .returned v' ∧ OwnP w' base v' (l.take i ++ ⟨p0, p1⟩ :: l.drop i) ∧ Below base W w' := by
  have hb1 : Below W.heap.size W (W.alloc (.cells #[.string p0, .string p1] 75)) := (Below.refl _ _).alloc (Nat.le_refl _) _
  refine (insert_calls v l ⟨p0, p1⟩ i base W.heap.size _ (hO.later hb1) hi (blk_new W (.cells #[.string p0, .string p1] 75)) (fun e => by have := own_lt (ownP_iff.1 hO) _ e.symm; omega) (by simp; omega) hl).mono ?_
  rintro e w' ⟨v', rfl, h1, h2⟩
  exact ⟨v', rfl, h1, (hb1.mono hb).trans h2⟩
set_option maxHeartbeats 1000000 in
theorem apply_no (A : Option Addr) (c : Nat) (l : List S75) (v1 : Value) (w : World) (hr : Kd.C k75 w A l.length l) (hc : l.length ≤ c) (K : Nat) (hM : dir_May.f K l = some false) :
    Calls Try.prog 18 #[.slice A l.length c, v1] w fun e w' => e = .returned (.slice none 0 0) ∧ Below w.heap.size w w' := by
  have HM := Aside0.mk hM
  have HR := Aside0.mk hr
  have HC := Aside0.mk hc
  clear hM hr hc
  go_enter Try.func18, Try.ntmps18
  go_wp2_with (go_at_call 23; refine (dir_May.calls K A c l false _ HR.out HC.out HM.out).mono ?_; rintro e w' ⟨rfl, hb⟩; have HB := Aside0.mk hb; clear hb)
  go_ret
  exact ⟨rfl, HB.out⟩
set_option maxHeartbeats 4000000 in
set_option maxRecDepth 100000 in
theorem apply_walk (A : Option Addr) (c : Nat) (l : List S75) (A1 : Option Addr) (c1 : Nat) (cs : List S42) (w : World) (hr : Kd.C k75 w A l.length l) (hc : l.length ≤ c) (hr1 : Kd.C k42 w A1 cs.length cs) (hc1 : cs.length ≤ c1) (K : Nat) (hM : dir_May.f K l = some true) (hl : l.length ≤ 1000000) (hcs : cs.length ≤ 1000000) (r : List S75) (hF : foldF K cs l = some r) :
    Calls Try.prog 18 #[.slice A l.length c, .slice A1 cs.length c1] w fun e w' => ∃ v, e = .returned v ∧ OwnP w' w.heap.size v r ∧ Below w.heap.size w w' := by
  have HM := Aside0.mk hM
  have HR := Aside0.mk hr
  have HC := Aside0.mk hc
  have HR1 := Aside0.mk hr1
  have HC1 := Aside0.mk hc1
  have HL := Aside0.mk hl
  have HCS := Aside0.mk hcs
  have HF := Aside0.mk hF
  have HB := Aside0.mk (Below.refl w.heap.size w)
  have hu := Try.underlying75
  have hu2 := Try.underlying42
  clear hM hr hc hr1 hc1 hl hcs hF
  go_enter Try.func18, Try.ntmps18
  go_wp2_with (first | (go_at_call 23; refine (dir_May.calls K A c l true _ HR.out HC.out HM.out).mono ?_; rintro e w1 ⟨rfl, hb⟩; have n0_ := Aside0.mk (below_step HB.out hb); have HR' := Aside0.mk (Kd.C_below HR.out hb); clear HB HR; have HB := n0_; have HR := HR'; clear n0_ HR' hb) | (go_at_call 44; refine (clone_calls A c l _ HR.out HL.out).mono ?_; rintro e w2 ⟨v, rfl, ho, hb⟩; have HO : Aside0 (OwnP w2 w.heap.size v l) := ⟨ownP_iff.2 (own_weaken (ownP_iff.1 ho) HB.out.size)⟩; have n0_ := Aside0.mk (below_step HB.out hb); clear HB ho; have HB := n0_; clear n0_ hb))
  go_loopw [0, 16] (fun v0 v16 wr => ∃ (x : Nat) (l' : List S75), v16 = .int .i64 (x : Int) ∧ Aside0 (x ≤ cs.length) ∧ Aside0 (OwnP wr w.heap.size v0 l') ∧ Aside0 (foldF K (cs.drop x) l' = some r) ∧ Aside0 (Below w.heap.size w wr)) (fun _ v16 _ => cs.length - (intOf v16).toNat)
  case atStart => exact ⟨0, l, rfl, ⟨Nat.zero_le _⟩, HO, ⟨by rw [List.drop_zero]; exact HF.out⟩, HB⟩
  case round =>
    obtain ⟨x, l', rfl, HX, HO', HF', HB'⟩ := hrel
    clear HO HF HB HR HM
    have HO := HO'
    have HF := HF'
    have HB := HB'
    clear HO' HF' HB'
    by_cases hlt : x < cs.length
    · have hf := HF.out
      rw [List.drop_eq_getElem_cons hlt, foldF] at hf
      by_cases hl9 : l'.length ≤ 900000
      · rw [if_pos hl9] at hf
        have hl10 : l'.length ≤ 1000000 := by omega
        obtain ⟨l2, hst, hf2⟩ := Option.bind_eq_some_iff.mp hf
        clear HF hf
        have HF := Aside0.mk hf2
        clear hf2
        have x0 : (0 : Int) ≤ (x : Int) := by omega
        have x1 : (x : Int) < (cs.length : Int) := by omega
        obtain ⟨ad, e1, hx0, hx1, hx2⟩ := at_T42 (Kd.C_below HR1.out HB.out) (x : Int) x0 x1
        cases e1
        rw [rd_changes cs x hlt] at hx0 hx1 hx2
        simp only [Int.toNat_natCast] at hx0 hx1 hx2
        obtain ⟨p0, hp0⟩ : ∃ p0, p0 = cs[x].f0 := ⟨_, rfl⟩
        obtain ⟨p1, hp1⟩ : ∃ p1, p1 = cs[x].f1 := ⟨_, rfl⟩
        obtain ⟨q, hq⟩ : ∃ q, q = cs[x].f2 := ⟨_, rfl⟩
        unfold stepF at hst
        rw [← hp0, ← hp1, ← hq] at hst
        rw [← hp0] at hx0
        rw [← hp1] at hx1
        rw [← hq] at hx2
        clear hp0 hp1 hq
        obtain ⟨al, hal, hst2⟩ := Option.bind_eq_some_iff.mp hst
        clear hst
        obtain ⟨A2, c2, rfl, hle2, hC2⟩ := ownP_C HO.out
        have HAL := Aside0.mk hal
        have HST := Aside0.mk hst2
        have HL9 := Aside0.mk hl9
        have HL10 := Aside0.mk hl10
        have HLT := Aside0.mk hlt
        have NI : Aside0 (x ≤ cs.length) := ⟨by omega⟩
        have y2 : decide ((x : Int) < (cs.length : Int)) = true := decide_eq_true x1
        have y3 : decide (x < cs.length) = true := decide_eq_true hlt
        have hx6 : x ≤ 1000000 := by have := HCS.out; omega
        clear hal hst2 hl9 hl10 hlt HX hle2 hC2
        go_upto_region 7 with ((with_reducible refine gate_dst (N := 6) rfl ?_); refine box_event ?hg (N := 6) ?hd (cs := #[.string (⟨#[]⟩ : ByteArray), .string (⟨#[]⟩ : ByteArray), .bool false]) (t := 42) ?hr ?_; (case hd => rfl); (case hg => rfl); (case hr => first | (go_simp; done) | (go_simp; rfl)); intro cb hg w5 hbox hb; have HW5 := Aside0.mk hb; have CB := Aside0.mk hbox; have GC := Aside0.mk (Nat.le_of_eq hg.symm : wr.heap.size ≤ cb); clear hb hbox hg; have hw0 : w5.cell? ⟨cb, 0, none⟩ = some (.string (⟨#[]⟩ : ByteArray)) := (blk_cell CB.out 0).trans rfl; have hw1 : w5.cell? ⟨cb, 1, none⟩ = some (.string (⟨#[]⟩ : ByteArray)) := (blk_cell CB.out 1).trans rfl; have hw2 : w5.cell? ⟨cb, 2, none⟩ = some (.bool false) := (blk_cell CB.out 2).trans rfl; have fw0 := blk_frozen CB.out 0; have fw1 := blk_frozen CB.out 1; have fw2 := blk_frozen CB.out 2)
        (try simp only [Act.put, List.setIfInBounds_toArray, List.set_cons_zero, List.set_cons_succ])
        have m0_ : Aside0 (Below wr.heap.size wr (World.setCell (World.setCell (World.setCell w5 ⟨cb, 0, none⟩ (.string p0)) ⟨cb, 1, none⟩ (.string p1)) ⟨cb, 2, none⟩ (.bool q))) := ⟨by refine below_set (below_set (below_set HW5.out GC.out) GC.out) GC.out⟩
        have m1_ : Aside0 ((World.setCell (World.setCell (World.setCell w5 ⟨cb, 0, none⟩ (.string p0)) ⟨cb, 1, none⟩ (.string p1)) ⟨cb, 2, none⟩ (.bool q)).heap[cb]? = some (.cells #[.string p0, .string p1, .bool q] 42 (0, 0))) := ⟨by refine blk_put (cs := #[.string p0, .string p1, .bool false]) ?_ 2 _ rfl; refine blk_put (cs := #[.string p0, .string (⟨#[]⟩ : ByteArray), .bool false]) ?_ 1 _ rfl; refine blk_put (cs := #[.string (⟨#[]⟩ : ByteArray), .string (⟨#[]⟩ : ByteArray), .bool false]) ?_ 0 _ rfl; exact CB.out⟩
        generalize (World.setCell (World.setCell (World.setCell w5 ⟨cb, 0, none⟩ (.string p0)) ⟨cb, 1, none⟩ (.string p1)) ⟨cb, 2, none⟩ (.bool q)) = w6 at m0_ m1_ ⊢
        have HO6 := Aside0.mk (HO.out.later m0_.out)
        have HB6 := Aside0.mk (below_step HB.out m0_.out)
        have GW := Aside0.mk (Nat.le_trans HB.out.size GC.out)
        clear CB HW5 hw0 hw1 hw2 fw0 fw1 fw2 hx0 hx1 hx2 m0_ HO HB GC
        have CB := m1_
        clear m1_
        have hz0 : w6.cell? ⟨cb, 0, none⟩ = some (.string p0) := (blk_cell CB.out 0).trans rfl
        have hz1 : w6.cell? ⟨cb, 1, none⟩ = some (.string p1) := (blk_cell CB.out 1).trans rfl
        have hz2 : w6.cell? ⟨cb, 2, none⟩ = some (.bool q) := (blk_cell CB.out 2).trans rfl
        cases al with
        | false =>
          have hst := HST.out
          rw [if_neg (by decide)] at hst
          obtain rfl := Option.some.inj hst
          clear hst HST
          go_wp2_with (go_at_call 45; refine (dir_alone.calls K p0 p1 q false _ HAL.out).mono ?_; rintro e w7 ⟨rfl, hb⟩; have CB7 := Aside0.mk (blk_below CB.out hb); have HB7 := Aside0.mk (below_step HB6.out hb); have HO7 := Aside0.mk (HO6.out.later hb); clear HO6; clear hb CB HB6 hz0 hz1 hz2 HAL; have hz0 : w7.cell? ⟨cb, 0, none⟩ = some (.string p0) := (blk_cell CB7.out 0).trans rfl; have hz1 : w7.cell? ⟨cb, 1, none⟩ = some (.string p1) := (blk_cell CB7.out 1).trans rfl; have hz2 : w7.cell? ⟨cb, 2, none⟩ = some (.bool q) := (blk_cell CB7.out 2).trans rfl)
          go_roundw
          case rel => exact ⟨x + 1, l', by go_num, ⟨by have := HLT.out; omega⟩, HO7, HF, HB7⟩
          case measure => have := HLT.out; simp [intOf]; omega
        | true =>
          have hst := HST.out
          rw [if_pos rfl] at hst
          clear HST
          have hFC : ∀ W : World, Kd.C k75 W A2 l'.length l' → Calls Try.prog 46 #[.slice A2 l'.length c2, .string p0] W fun e w' => e = .returned (.tuple #[.int .i64 (bsF l' p0 l'.length 0 l'.length : Nat), .bool (isF l' p0 (bsF l' p0 l'.length 0 l'.length))]) ∧ Below W.heap.size W w' := fun W h => find_calls A2 c2 l' p0 W h HL10.out
          have hil := bsF_le l' p0 l'.length 0 l'.length (Nat.zero_le _)
          obtain ⟨i, hi⟩ : ∃ i, i = bsF l' p0 l'.length 0 l'.length := ⟨_, rfl⟩
          rw [← hi] at hst hFC hil
          obtain ⟨b, hbf⟩ : ∃ b, b = isF l' p0 i := ⟨_, rfl⟩
          rw [← hbf] at hst hFC
          have HBF := Aside0.mk hbf
          have HIL := Aside0.mk hil
          have hib : i ≤ 1000000 := by have := HL10.out; omega
          have FC := Aside0.mk hFC
          clear hFC hil hi hbf
          cases b with
          | true =>
            rw [if_pos rfl] at hst
            have hi9 : i < l'.length := isF_lt (HBF.out.symm.trans rfl)
            obtain ⟨g, rfl, hg, hRow⟩ : ∃ g, A2 = some ⟨g, 0, none⟩ ∧ w.heap.size ≤ g ∧ RowP w6 g c2 l' := ownP_some HO6.out (by omega)
            have HG := Aside0.mk hg
            have HRow := Aside0.mk hRow
            have HI9 := Aside0.mk hi9
            clear hg hRow hi9 HO6
            cases q with
            | true =>
              rw [if_pos rfl] at hst
              obtain rfl := Option.some.inj hst
              clear hst
              go_wp2_with (first | (go_at_call 45; refine (dir_alone.calls K p0 p1 true true _ HAL.out).mono ?_; rintro e w7 ⟨rfl, hb⟩; have CB7 := Aside0.mk (blk_below CB.out hb); have HB7 := Aside0.mk (below_step HB6.out hb); have HRow7 := Aside0.mk (HRow.out.later hb); clear HRow; clear hb CB HB6 hz0 hz1 hz2 HAL; have hz0 : w7.cell? ⟨cb, 0, none⟩ = some (.string p0) := (blk_cell CB7.out 0).trans rfl; have hz1 : w7.cell? ⟨cb, 1, none⟩ = some (.string p1) := (blk_cell CB7.out 1).trans rfl; have hz2 : w7.cell? ⟨cb, 2, none⟩ = some (.bool true) := (blk_cell CB7.out 2).trans rfl) | (go_at_call 46; refine (FC.out _ (rowP_C HRow7.out)).mono ?_; rintro e w8 ⟨rfl, hb⟩; have CB8 := Aside0.mk (blk_below CB7.out hb); have HB8 := Aside0.mk (below_step HB7.out hb); have HRow8 := Aside0.mk (HRow7.out.later hb); clear HRow7; clear hb CB7 HB7 hz0 hz1 hz2; have hz0 : w8.cell? ⟨cb, 0, none⟩ = some (.string p0) := (blk_cell CB8.out 0).trans rfl; have hz1 : w8.cell? ⟨cb, 1, none⟩ = some (.string p1) := (blk_cell CB8.out 1).trans rfl; have hz2 : w8.cell? ⟨cb, 2, none⟩ = some (.bool true) := (blk_cell CB8.out 2).trans rfl) | (go_at_call 47; with_reducible refine (delete_calls g c2 l' i HI9.out _ HRow8.out).mono ?_; rintro e w9 ⟨rfl, hr9, hb9⟩; have HO9 := Aside0.mk (ownP_del HI9.out HG.out hr9); have HB9 := Aside0.mk (HB8.out.trans (hb9.mono HG.out)); clear hr9 hb9 HB8 HRow8 hz0 hz1 hz2))
              go_roundw
              case rel => exact ⟨x + 1, _, by go_num, ⟨by have := HLT.out; omega⟩, HO9, HF, HB9⟩
              case measure => have := HLT.out; simp [intOf]; omega
            | false =>
              rw [if_neg (by decide)] at hst
              obtain rfl := Option.some.inj hst
              clear hst
              have y4 : decide ((i : Int) < (l'.length : Int)) = true := decide_eq_true (by have := HI9.out; omega)
              have y5 : ((i : Int) < (l'.length : Int)) = True := eq_true (by have := HI9.out; omega)
              have y6 : (i < l'.length) = True := eq_true HI9.out
              go_wp2_with (first | (go_at_call 45; refine (dir_alone.calls K p0 p1 false true _ HAL.out).mono ?_; rintro e w7 ⟨rfl, hb⟩; have CB7 := Aside0.mk (blk_below CB.out hb); have HB7 := Aside0.mk (below_step HB6.out hb); have HRow7 := Aside0.mk (HRow.out.later hb); clear HRow; clear hb CB HB6 hz0 hz1 hz2 HAL; have hz0 : w7.cell? ⟨cb, 0, none⟩ = some (.string p0) := (blk_cell CB7.out 0).trans rfl; have hz1 : w7.cell? ⟨cb, 1, none⟩ = some (.string p1) := (blk_cell CB7.out 1).trans rfl; have hz2 : w7.cell? ⟨cb, 2, none⟩ = some (.bool false) := (blk_cell CB7.out 2).trans rfl) | (go_at_call 46; refine (FC.out _ (rowP_C HRow7.out)).mono ?_; rintro e w8 ⟨rfl, hb⟩; have CB8 := Aside0.mk (blk_below CB7.out hb); have HB8 := Aside0.mk (below_step HB7.out hb); have HRow8 := Aside0.mk (HRow7.out.later hb); clear HRow7; obtain ⟨q9, hs0⟩ : ∃ q9, w8.cell? ⟨g, i * 2 + 1, none⟩ = some (.string q9) := ⟨_, HRow8.out.cell _ _ (cellsP_at l' i HI9.out).2⟩; have hs1 := HRow8.out.frozen (i * 2 + 1); clear hb CB7 HB7 hz0 hz1 hz2; have hz0 : w8.cell? ⟨cb, 0, none⟩ = some (.string p0) := (blk_cell CB8.out 0).trans rfl; have hz1 : w8.cell? ⟨cb, 1, none⟩ = some (.string p1) := (blk_cell CB8.out 1).trans rfl; have hz2 : w8.cell? ⟨cb, 2, none⟩ = some (.bool false) := (blk_cell CB8.out 2).trans rfl))
              have HO9 := Aside0.mk (ownP_set HI9.out HG.out HRow8.out p1)
              have HB9 := Aside0.mk (HB8.out.setCell (p := ⟨g, i * 2 + 1, none⟩) HG.out (.string p1))
              go_roundw
              case rel => exact ⟨x + 1, _, by go_num, ⟨by have := HLT.out; omega⟩, HO9, HF, HB9⟩
              case measure => have := HLT.out; simp [intOf]; omega
          | false =>
            rw [if_neg (by decide)] at hst
            cases q with
            | true =>
              rw [if_pos rfl] at hst
              obtain rfl := Option.some.inj hst
              clear hst
              go_wp2_with (first | (go_at_call 45; refine (dir_alone.calls K p0 p1 true true _ HAL.out).mono ?_; rintro e w7 ⟨rfl, hb⟩; have CB7 := Aside0.mk (blk_below CB.out hb); have HB7 := Aside0.mk (below_step HB6.out hb); have HO7 := Aside0.mk (HO6.out.later hb); clear HO6; clear hb CB HB6 hz0 hz1 hz2 HAL; have hz0 : w7.cell? ⟨cb, 0, none⟩ = some (.string p0) := (blk_cell CB7.out 0).trans rfl; have hz1 : w7.cell? ⟨cb, 1, none⟩ = some (.string p1) := (blk_cell CB7.out 1).trans rfl; have hz2 : w7.cell? ⟨cb, 2, none⟩ = some (.bool true) := (blk_cell CB7.out 2).trans rfl) | (go_at_call 46; refine (FC.out _ (ownP_C2 HO7.out)).mono ?_; rintro e w8 ⟨rfl, hb⟩; have CB8 := Aside0.mk (blk_below CB7.out hb); have HB8 := Aside0.mk (below_step HB7.out hb); have HO8 := Aside0.mk (HO7.out.later hb); clear HO7; clear hb CB7 HB7 hz0 hz1 hz2; have hz0 : w8.cell? ⟨cb, 0, none⟩ = some (.string p0) := (blk_cell CB8.out 0).trans rfl; have hz1 : w8.cell? ⟨cb, 1, none⟩ = some (.string p1) := (blk_cell CB8.out 1).trans rfl; have hz2 : w8.cell? ⟨cb, 2, none⟩ = some (.bool true) := (blk_cell CB8.out 2).trans rfl))
              go_roundw
              case rel => exact ⟨x + 1, l', by go_num, ⟨by have := HLT.out; omega⟩, HO8, HF, HB8⟩
              case measure => have := HLT.out; simp [intOf]; omega
            | false =>
              rw [if_neg (by decide)] at hst
              obtain rfl := Option.some.inj hst
              clear hst
              go_wp2_with (first | (go_at_call 45; refine (dir_alone.calls K p0 p1 false true _ HAL.out).mono ?_; rintro e w7 ⟨rfl, hb⟩; have CB7 := Aside0.mk (blk_below CB.out hb); have HB7 := Aside0.mk (below_step HB6.out hb); have HO7 := Aside0.mk (HO6.out.later hb); clear HO6; clear hb CB HB6 hz0 hz1 hz2 HAL; have hz0 : w7.cell? ⟨cb, 0, none⟩ = some (.string p0) := (blk_cell CB7.out 0).trans rfl; have hz1 : w7.cell? ⟨cb, 1, none⟩ = some (.string p1) := (blk_cell CB7.out 1).trans rfl; have hz2 : w7.cell? ⟨cb, 2, none⟩ = some (.bool false) := (blk_cell CB7.out 2).trans rfl) | (go_at_call 46; refine (FC.out _ (ownP_C2 HO7.out)).mono ?_; rintro e w8 ⟨rfl, hb⟩; have CB8 := Aside0.mk (blk_below CB7.out hb); have HB8 := Aside0.mk (below_step HB7.out hb); have HO8 := Aside0.mk (HO7.out.later hb); clear HO7; clear hb CB7 HB7 hz0 hz1 hz2; have hz0 : w8.cell? ⟨cb, 0, none⟩ = some (.string p0) := (blk_cell CB8.out 0).trans rfl; have hz1 : w8.cell? ⟨cb, 1, none⟩ = some (.string p1) := (blk_cell CB8.out 1).trans rfl; have hz2 : w8.cell? ⟨cb, 2, none⟩ = some (.bool false) := (blk_cell CB8.out 2).trans rfl) | (go_at_call 48; with_reducible refine (insert_any HO8.out HIL.out p0 p1 HB8.out.size HL10.out).mono ?_; rintro e w9 ⟨v9, rfl, ho9, hb9⟩; have HO9 := Aside0.mk ho9; have HB9 := Aside0.mk (HB8.out.trans hb9); clear ho9 hb9 HB8 HO8 hz0 hz1 hz2))
              go_roundw
              case rel => exact ⟨x + 1, _, by go_num, ⟨by have := HLT.out; omega⟩, HO9, HF, HB9⟩
              case measure => have := HLT.out; simp [intOf]; omega
      · rw [if_neg hl9] at hf; cases hf
    · obtain rfl : x = cs.length := by have := HX.out; omega
      have hf := HF.out
      rw [List.drop_of_length_le (Nat.le_refl _)] at hf
      obtain rfl := Option.some.inj hf
      have y2 : decide ((cs.length : Int) < (cs.length : Int)) = false := decide_eq_false (by omega)
      clear hf
      go_wp2
      go_ret
      exact ⟨_, rfl, HO.out, HB.out⟩
def applyF (K : Nat) (l : List S75) (cs : List S42) : Option (List S75) := (dir_May.f K l).bind fun m => if m = true then (if l.length ≤ 900000 ∧ cs.length ≤ 900000 then foldF K cs l else none) else some []
theorem applyF_calls (K : Nat) (A0 : Option Addr) (c0 : Nat) (l0 : List S75) (A1 : Option Addr) (c1 : Nat) (l1 : List S42) (r : List S75) (w : World) (hr0 : Kd.C k75 w A0 l0.length l0) (hc0 : l0.length ≤ c0) (hr1 : Kd.C k42 w A1 l1.length l1) (hc1 : l1.length ≤ c1) (h : applyF K l0 l1 = some r) :
    Calls Try.prog 18 #[.slice A0 l0.length c0, .slice A1 l1.length c1] w fun e w' => ∃ v0_ : Value, e = .returned v0_ ∧ Kd.R k75 75 w' w.heap.size (fun _ => True) v0_ r ∧ Below w.heap.size w w' := by
  unfold applyF at h
  obtain ⟨m, hm, h⟩ := Option.bind_eq_some_iff.mp h
  cases m with
  | true =>
    rw [if_pos rfl] at h
    by_cases hs : l0.length ≤ 900000 ∧ l1.length ≤ 900000
    · rw [if_pos hs] at h
      refine (apply_walk A0 c0 l0 A1 c1 l1 w hr0 hc0 hr1 hc1 K hm (by omega) (by omega) r h).mono ?_
      rintro e w' ⟨v, rfl, ho, hb⟩
      exact ⟨v, rfl, ownP_R ho, hb⟩
    · rw [if_neg hs] at h; cases h
  | false =>
    rw [if_neg (by decide)] at h
    obtain rfl := Option.some.inj h
    refine (apply_no A0 c0 l0 _ w hr0 hc0 K hm).mono ?_
    rintro e w' ⟨rfl, hb⟩
    exact ⟨_, rfl, Kd.R_nil _ _ _ _ _, hb⟩
def dir_Apply.f (l0 : List S75) (l1 : List S42) : Option (List S75) := applyF 2000 l0 l1
theorem dir_Apply.calls (A0 : Option Addr) (c0 : Nat) (l0 : List S75) (A1 : Option Addr) (c1 : Nat) (l1 : List S42) (r : List S75) (w : World) (hr0 : Kd.C k75 w A0 l0.length l0) (hc0 : l0.length ≤ c0) (hr1 : Kd.C k42 w A1 l1.length l1) (hc1 : l1.length ≤ c1) (h : dir_Apply.f l0 l1 = some r) :
    Calls Try.prog 18 #[.slice A0 l0.length c0, .slice A1 l1.length c1] w fun e w' => ∃ v0_ : Value, e = .returned v0_ ∧ Kd.R k75 75 w' w.heap.size (fun _ => True) v0_ r ∧ Below w.heap.size w w' := applyF_calls 2000 A0 c0 l0 A1 c1 l1 r w hr0 hc0 hr1 hc1 h
end Go.Proofs.Ytggngbbkachpaaa.Given
