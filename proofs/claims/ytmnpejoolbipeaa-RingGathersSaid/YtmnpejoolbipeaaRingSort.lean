/- slices.SortFunc at intents, laid by the shelf. -/
import Derived.Below
import Derived.Deep.Draws
import Derived.Deep.AppendLies
import Derived.Maps.AppendAt
import Derived.OwnWalk
import Derived.Laws.BytesArg
import Derived.Laws.MakeOwn
import Derived.Laws.OwnMore
import Derived.Deep.OwnRows
import Derived.Tactics
import Derived.Lib.ConvBytes
import Derived.Laws.Slices
import Derived.WalkKit
import Derived.KernelRfl
import Derived.RowKit3
import Derived.Deep.LoopGhost
import Derived.Deep.QuietTactic
import Derived.BigQuiet
import Derived.WideLaws
import Derived.Deep.DeepCutAuto
import Derived.Deep.CutBlock
import Derived.Deep.RegionHeld3
import Derived.Laws.Rows
import Derived.Lib.AppendStr
import Derived.ArgAppend
import Derived.Laws.IdiomCopy
import Derived.OrdersHeld
import Derived.Laws.BitsLemmas
import Derived.RowKit
import Derived.Test.YtmnpejoolbipeaaWWords
import Derived.Test.YtmnpejoolbipeaaWLast
import Derived.Test.YtmnpejoolbipeaaWTab
import Derived.Test.YtmnpejoolbipeaaWFour
import Derived.Test.YtmnpejoolbipeaaWQPut
import Derived.Test.YtmnpejoolbipeaaWApart
import Derived.Test.YtmnpejoolbipeaaWArr
import Derived.Test.YtmnpejoolbipeaaWZeros
import Derived.Test.YtmnpejoolbipeaaWFoot
import Derived.Test.YtmnpejoolbipeaaWKept
import Derived.Test.YtmnpejoolbipeaaWShare
import Derived.Test.YtmnpejoolbipeaaWN
import Derived.Test.YtmnpejoolbipeaaWFootNe
import Derived.Test.YtmnpejoolbipeaaWAt
import Derived.Test.YtmnpejoolbipeaaWEqStruct
import Derived.Test.YtmnpejoolbipeaaWRepsOne
import Derived.Test.YtmnpejoolbipeaaWInv
import Derived.Test.YtmnpejoolbipeaaWInvWords
import Derived.Test.YtmnpejoolbipeaaWGuard
import Derived.Test.YtmnpejoolbipeaaWNEv
import Derived.Test.YtmnpejoolbipeaaWMore
import Derived.StillTailTactics
import Derived.Laws.BitsAllLaws
import Derived.Outline
import Derived.Lib.OthersKept
import Derived.Test.YtmnpejoolbipeaaBs
import Derived.Shelf.SlSortCmp.WholeK
import Derived.Lib.Hide
import Derived.Sort.OwnSorted
import Derived.Test.YtmnpejoolbipeaaRingNext
import Derived.Test.YtmnpejoolbipeaaRingIter
import Derived.Test.YtmnpejoolbipeaaPRix0
namespace Go.Proofs.Ytmnpejoolbipeaa.Given
open Go Go.RowKit Go.Shelf Go.Proofs Go.Proofs.Ytmnpejoolbipeaa.Bs Go.Proofs.Ytmnpejoolbipeaa.PRi Go.Proofs.YtmnpejoolbipeaaW.PrintWords Go.Proofs.YtmnpejoolbipeaaW.PrintLast Go.Proofs.YtmnpejoolbipeaaW.PrintMore
set_option linter.unusedVariables false
set_option linter.unusedSimpArgs false
def sortI_ren : Go.Shelf.Ren := ⟨fun | 6 => 36 | 14 => 51 | 15 => 52 | 20 => 58 | 21 => 59 | 22 => 60 | 23 => 61 | 24 => 62 | 25 => 63 | 26 => 64 | 27 => 65 | 28 => 66 | 29 => 67 | 46 => 72 | 47 => 73 | 48 => 74 | 49 => 75 | 50 => 76 | 57 => 78 | n => n, fun | 0 => 0 | 3 => 3 | 4 => 4 | 5 => 5 | 9 => 9 | 22 => 28 | 24 => 44 | 25 => 54 | 39 => 88 | 45 => 101 | 46 => 102 | 50 => 106 | 53 => 94 | 55 => 110 | 66 => 115 | 70 => 91 | 76 => 123 | 77 => 124 | n => n, fun | n => n⟩
set_option maxRecDepth 100000 in
theorem sortI : SlLaysF0.n6 Try.prog sortI_ren := {
  mixed := by kernel_rfl
  f6 := ⟨ "slices.SortFunc[[]sheetpile/intent.Intent,sheetpile/intent.Intent]", by decide, Try.func36.trans (congrArg some (by kernel_rfl))⟩
  f14 := ⟨ "slices.pdqsortCmpFunc[sheetpile/intent.Intent]", by decide, Try.func51.trans (congrArg some (by kernel_rfl))⟩
  f15 := Try.func52.trans (congrArg some (by kernel_rfl))
  f20 := ⟨ "slices.insertionSortCmpFunc[sheetpile/intent.Intent]", by decide, Try.func58.trans (congrArg some (by kernel_rfl))⟩
  f21 := ⟨ "slices.heapSortCmpFunc[sheetpile/intent.Intent]", by decide, Try.func59.trans (congrArg some (by kernel_rfl))⟩
  f22 := ⟨ "slices.breakPatternsCmpFunc[sheetpile/intent.Intent]", by decide, Try.func60.trans (congrArg some (by kernel_rfl))⟩
  f23 := ⟨ "slices.choosePivotCmpFunc[sheetpile/intent.Intent]", by decide, Try.func61.trans (congrArg some (by kernel_rfl))⟩
  f24 := ⟨ "slices.reverseRangeCmpFunc[sheetpile/intent.Intent]", by decide, Try.func62.trans (congrArg some (by kernel_rfl))⟩
  f25 := ⟨ "slices.partialInsertionSortCmpFunc[sheetpile/intent.Intent]", by decide, Try.func63.trans (congrArg some (by kernel_rfl))⟩
  f26 := ⟨ "slices.partitionEqualCmpFunc[sheetpile/intent.Intent]", by decide, Try.func64.trans (congrArg some (by kernel_rfl))⟩
  f27 := ⟨ "slices.partitionCmpFunc[sheetpile/intent.Intent]", by decide, Try.func65.trans (congrArg some (by kernel_rfl))⟩
  f28 := Try.func66.trans (congrArg some (by kernel_rfl))
  f29 := Try.func67.trans (congrArg some (by kernel_rfl))
  f46 := ⟨ "slices.siftDownCmpFunc[sheetpile/intent.Intent]", by decide, Try.func72.trans (congrArg some (by kernel_rfl))⟩
  f47 := Try.func73.trans (congrArg some (by kernel_rfl))
  f48 := Try.func74.trans (congrArg some (by kernel_rfl))
  f49 := ⟨ "slices.medianAdjacentCmpFunc[sheetpile/intent.Intent]", by decide, Try.func75.trans (congrArg some (by kernel_rfl))⟩
  f50 := ⟨ "slices.medianCmpFunc[sheetpile/intent.Intent]", by decide, Try.func76.trans (congrArg some (by kernel_rfl))⟩
  f57 := ⟨ "slices.order2CmpFunc[sheetpile/intent.Intent]", by decide, Try.func78.trans (congrArg some (by kernel_rfl))⟩
  t0 := Try.underlying0
  a0 := Try.isAgg0
  z0 := Try.sizeOf0
  v0 := Try.zeroValue0
  t3 := Try.underlying3
  a3 := Try.isAgg3
  z3 := Try.sizeOf3
  v3 := Try.zeroValue3
  t4 := Try.underlying4
  a4 := Try.isAgg4
  z4 := Try.sizeOf4
  v4 := Try.zeroValue4
  t5 := Try.underlying5
  a5 := Try.isAgg5
  z5 := Try.sizeOf5
  v5 := Try.zeroValue5
  t9 := Try.underlying9
  a9 := Try.isAgg9
  z9 := Try.sizeOf9
  v9 := Try.zeroValue9
  t22 := Try.underlying28
  a22 := Try.isAgg28
  z22 := Try.sizeOf28
  v22 := Try.zeroValue28
  t25 := Try.underlying54
  a25 := Try.isAgg54
  z25 := Try.sizeOf54
  v25 := Try.zeroValue54
  t39 := Try.underlying88
  a39 := Try.isAgg88
  z39 := Try.sizeOf88
  v39 := Try.zeroValue88
  t45 := Try.underlying101
  a45 := Try.isAgg101
  z45 := Try.sizeOf101
  v45 := Try.zeroValue101
  t46 := Try.underlying102
  a46 := Try.isAgg102
  z46 := Try.sizeOf102
  v46 := Try.zeroValue102
  t50 := Try.underlying106
  a50 := Try.isAgg106
  z50 := Try.sizeOf106
  v50 := Try.zeroValue106
  t53 := Try.underlying94
  a53 := Try.isAgg94
  z53 := Try.sizeOf94
  v53 := Try.zeroValue94
  t55 := Try.underlying110
  a55 := Try.isAgg110
  z55 := Try.sizeOf110
  v55 := Try.zeroValue110
  t66 := Try.underlying115
  a66 := Try.isAgg115
  z66 := Try.sizeOf115
  v66 := Try.zeroValue115
  t70 := Try.underlying91
  a70 := Try.isAgg91
  z70 := Try.sizeOf91
  v70 := Try.zeroValue91
  t76 := Try.underlying123
  a76 := Try.isAgg123
  z76 := Try.sizeOf123
  v76 := Try.zeroValue123
  t77 := Try.underlying124
  a77 := Try.isAgg124
  z77 := Try.sizeOf124
  v77 := Try.zeroValue124 }
instance inhI : Inhabited S44 := ⟨z44⟩
theorem ltI (x y : S44) : Go.Proofs.ltOf (fun x y : S44 => cmpI x.f1 y.f1) x y = decide (x.f1 < y.f1) := by
  unfold Go.Proofs.ltOf cmpI
  by_cases h1 : x.f1 < y.f1
  · simp [h1]
  · by_cases h2 : y.f1 < x.f1 <;> simp [h1, h2]
theorem swoI : Go.Sort.SWO (Go.Proofs.ltOf fun x y : S44 => cmpI x.f1 y.f1) where
  irrefl x := by rw [ltI]; simp
  trans x y z h1 h2 := by rw [ltI] at *; simp at *; omega
  ntrans x y z h1 h2 := by rw [ltI] at *; simp at *; omega
def encL (x : S44) : List Value := [.int .i64 x.f0, .int .i64 x.f1, .string x.f2]
set_option maxHeartbeats 1000000 in
theorem newest1_world (p q : S44) (W : World) : Calls Try.prog 21 #[.agg #[.int .i64 p.f0, .int .i64 p.f1, .string p.f2], .agg #[.int .i64 q.f0, .int .i64 q.f1, .string q.f2]] W fun e w' => e = .returned (.int .i64 (cmpI p.f1 q.f1)) ∧ ∃ n os', w' = Go.Sort.grow (W.drewN n) os' := by
  have hu := Try.underlying44
  go_enter Try.func21, Try.ntmps21
  go_wp2_with (go_at_call 22; refine (cmpI_calls _ _ _).mono ?_; rintro e w' ⟨rfl, rfl⟩)
  go_ret
  exact ⟨rfl, 0, _, by rw [Go.Sort.alloc_eq_grow, Go.Sort.alloc_eq_grow, Go.Sort.grow_grow]; rfl⟩
theorem cmpLays_I (blk off size : Nat) (w : World) : Go.Proofs.CmpLays Try.prog 21 #[] encL 3 (fun x y : S44 => cmpI x.f1 y.f1) blk off size w := fun _ _ _ _ x y => newest1_world x y _
theorem cellsI_len (l : List S44) : (cellsI l).length = l.length * 3 := by
  induction l with
  | nil => rfl
  | cons p l ih => have : cellsI (p :: l) = [.int .i64 p.f0, .int .i64 p.f1, .string p.f2] ++ cellsI l := rfl
                   rw [this, List.length_append, ih, List.length_cons]; simp; omega
theorem cellsI_get : ∀ (l : List S44) (t : Nat), t < l.length * 3 → (cellsI l)[t]? = some ((encL (l.toArray[t / 3]!))[t % 3]!)
  | [], t, h => by simp at h
  | p :: l, t, h => by
    have e : cellsI (p :: l) = [.int .i64 p.f0, .int .i64 p.f1, .string p.f2] ++ cellsI l := rfl
    rw [e]
    match t, h with
    | 0, _ => rfl
    | 1, _ => rfl
    | 2, _ => rfl
    | t + 3, h =>
      rw [List.length_cons] at h
      have ih := cellsI_get l t (by omega)
      rw [List.getElem?_append_right (by simp)]
      have e2 : t + 3 - [Value.int .i64 p.f0, Value.int .i64 p.f1, Value.string p.f2].length = t := by simp
      rw [e2, ih, show (t + 3) / 3 = t / 3 + 1 by omega, show (t + 3) % 3 = t % 3 by omega]
      have hq : t / 3 < l.length := by omega
      congr 3
      simp [getElem!_pos, hq]
theorem flatI (l : List S44) : Go.Sort.flatK encL 3 l.toArray = (cellsI l).toArray := by
  refine Go.Sort.ext_get! (by rw [Go.Sort.size_flatK]; simp [cellsI_len]) (fun t ht => ?_)
  rw [Go.Sort.size_flatK] at ht
  rw [Go.Sort.get_flatK _ _ _ _ ht]
  have h := cellsI_get l t (by simpa using ht)
  rw [getElem!_def (cellsI l).toArray, List.getElem?_toArray, h]
theorem holdsI {w : World} {g : Nat} {cur : Array Value} {e : TypeId} {l : List S44} (hb : w.heap[g]? = some (.cells cur e (0, 0))) (ht : cur.toList.take (l.length * 3) = cellsI l) : Go.Sort.HoldsK encL 3 w g 0 l.toArray := by
  unfold Go.Sort.HoldsK
  rw [flatI]
  intro j hj
  have hj' : j < l.length * 3 := by simpa [cellsI_len] using hj
  refine ⟨?_, by simp [World.frozen?, hb]⟩
  have h1 : (cur.toList.take (l.length * 3))[j]? = (cellsI l)[j]? := by rw [ht]
  rw [List.getElem?_take_of_lt hj'] at h1
  rw [Nat.zero_add, blk_cell hb j, ← Array.getElem?_toList, h1, getElem!_def, List.getElem?_toArray]
  rw [cellsI_get l j hj']
  rfl
theorem heap_sortedV {w : World} {g n : Nat} {os : Array Obj} {cur : Array Value} {e : TypeId} {fr : Nat × Nat} (d : Array Value) (hb : w.heap[g]? = some (.cells cur e fr)) :
    (Go.Sort.grow (Go.Sort.putRow id (Go.Sort.ahead w n) g 0 d) os).heap[g]? = some (.cells (Go.Sort.putCells id 0 d cur) e fr) := by
  have hg : g < w.heap.size := (Array.getElem?_eq_some_iff.1 hb).1
  rw [Go.Sort.heap_grow_old _ _ (by simpa using hg)]
  simp [Go.Sort.putRow, Go.Sort.mapBlock, Go.Sort.ahead, Array.getElem?_modify, hb, Go.Sort.onCells]
theorem grownBy_sortedV {w : World} {g n : Nat} {os : Array Obj} (d : Array Value) : w.grownBy (Go.Sort.grow (Go.Sort.putRow id (Go.Sort.ahead w n) g 0 d) os) (some g) := by
  refine ⟨rfl, rfl, rfl, by simp, fun k hk hne => ?_⟩
  rw [Go.Sort.heap_grow_old _ _ (by simpa using hk)]
  have : g ≠ k := fun e => hne (by rw [e])
  simp [Go.Sort.putRow, Go.Sort.mapBlock, Go.Sort.ahead, Array.getElem?_modify, this]
theorem take_putCellsV (cur : Array Value) (ts : List Value) (h : ts.length ≤ cur.size) : (Go.Sort.putCells id 0 ts.toArray cur).toList.take ts.length = ts := by
  apply List.ext_getElem?
  intro j
  by_cases hj : j < ts.length
  · rw [List.getElem?_take_of_lt hj, Array.getElem?_toList]
    simp [Go.Sort.putCells, hj, show j < cur.size by omega]
  · rw [List.getElem?_take_eq_none (by omega), List.getElem?_eq_none (by omega)]
set_option maxHeartbeats 1000000 in
/-- slices.SortFunc at a row of intents of the call's own. -/
theorem sort_row (base g cap : Nat) (xs : List S44) (w : World) (hown : w.ownsRow base 44 3 (.slice (some ⟨g, 0, none⟩) xs.length cap) xs.length (cellsI xs)) (hl : xs.length ≤ 1000000) :
    Calls Try.prog 36 #[.slice (some ⟨g, 0, none⟩) xs.length cap, .func (.func 21) #[] #[]] w fun e w' => e = .returned (.tuple #[]) ∧ ∃ ys : List S44, ys.Perm xs ∧ ys.Pairwise (fun x y => x.f1 ≤ y.f1) ∧ w'.ownsRow base 44 3 (.slice (some ⟨g, 0, none⟩) ys.length cap) ys.length (cellsI ys) ∧ w.grownBy w' (some g) := by
  obtain ⟨hlen, ⟨h0, _⟩ | ⟨g', cap', cur, hv, hg, hb, h1, h2, h3, h4⟩⟩ := hown
  · cases h0
  · cases hv
    have eg : ∀ args w, (callFunc 21 args).run Try.prog w = .ok (.enter 21 args) w := enters_of Try.func21 (by kernel_rfl) rfl
    have hc := AnyQ.slices_SortFunc sortI 3 Try.isAgg44 Try.sizeOf44 encL (fun _ => rfl) (fun x v hv => by simp [encL] at hv; rcases hv with rfl | rfl | rfl <;> rfl) (fun x y : S44 => cmpI x.f1 y.f1) swoI 21 #[] g 0 cap xs.toArray w eg (cmpLays_I g 0 _ w) (holdsI hb h4) (blk_lt hb) (by simp; omega)
    have e1 : sortI_ren.f 6 = 36 := rfl
    rw [e1] at hc
    simp only [List.size_toArray] at hc
    refine hc.mono ?_
    rintro e w' ⟨rfl, d', n, os, ⟨hs, _, hperm⟩, hsort, rfl⟩
    obtain ⟨ys, rfl⟩ : ∃ ys : List S44, d' = ys.toArray := ⟨d'.toList, by simp⟩
    have hs' : ys.length = xs.length := by simpa using hs
    have hp : ys.Perm xs := by simpa [hs', List.take_of_length_le (Nat.le_of_eq hs')] using hperm
    refine ⟨rfl, ys, hp, ?_, ?_, ?_⟩
    · rw [List.pairwise_iff_getElem]
      intro i j hi hj hij
      have := hsort i j (Nat.zero_le _) hij (by omega)
      rw [ltI] at this
      simp [getElem!_pos, hi, hj] at this
      omega
    · have h5 : ys.length * 3 ≤ cur.size := by rw [h3, hs']; exact Nat.mul_le_mul_right 3 h1
      refine ⟨cellsI_len ys, .inr ⟨g, cap, Go.Sort.putCells id 0 (cellsI ys).toArray cur, rfl, hg, ?_, by omega, h2, by simp [Go.Sort.putCells, h3], ?_⟩⟩
      · unfold Go.Proofs.sortWorldK Go.Sort.putRowK
        rw [flatI]
        exact heap_sortedV _ hb
      · have := take_putCellsV cur (cellsI ys) (by rw [cellsI_len]; exact h5)
        rwa [cellsI_len] at this
    · unfold Go.Proofs.sortWorldK Go.Sort.putRowK
      exact grownBy_sortedV _
set_option maxHeartbeats 2000000 in
/-- .. and at none. -/
theorem ins_nil (w : World) : Calls Try.prog 58 #[.slice none 0 0, .int .i64 0, .int .i64 0, .func (.func 21) #[] #[]] w fun e w' => e = .returned (.tuple #[]) ∧ w' = w := by
  go_enter Try.func58, Try.ntmps58
  go_wp2
  go_loopw [8] (fun u8 wr => u8 = .int .i64 1 ∧ wr = w) (fun _ _ => 0)
  case atStart => exact ⟨rfl, rfl⟩
  case round =>
    obtain ⟨rfl, rfl⟩ := hrel
    go_wp2
    go_end0
    exact ⟨rfl, rfl⟩
set_option maxHeartbeats 4000000 in
set_option maxRecDepth 100000 in
theorem pdq_nil (lim : Int) (w : World) : Calls Try.prog 51 #[.slice none 0 0, .int .i64 0, .int .i64 0, .int .i64 lim, .func (.func 21) #[] #[]] w fun e w' => e = .returned (.tuple #[]) ∧ w' = w := by
  go_enter Try.func51, Try.ntmps51
  go_wp2
  go_loopw [1, 2] (fun u1 u2 wr => u1 = .int .i64 0 ∧ u2 = .int .i64 0 ∧ wr = w) (fun _ _ _ => 0)
  case atStart => exact ⟨rfl, rfl, rfl⟩
  case round =>
    obtain ⟨rfl, rfl, rfl⟩ := hrel
    go_wp2_with (go_at_call 58; refine (ins_nil _).mono ?_; rintro e w' ⟨rfl, rfl⟩)
    refine bodyPost_ret (results_none rfl _ _ _) rfl ?_
    exact ⟨rfl, rfl⟩
theorem sort_nil (w : World) : Calls Try.prog 36 #[.slice none 0 0, .func (.func 21) #[] #[]] w fun e w' => e = .returned (.tuple #[]) ∧ w' = w := by
  have hl : Calls Try.prog 52 #[.int .u64 0] w fun e w' => e = .returned (.int .i64 (Lib.bitLen 0 : Nat)) ∧ w' = w :=
    Any.bits_Len (SlLaysF0.n15.bits (P := Try.prog) (ρ := sortI_ren) { sortI with }) 0 w (by omega) (by omega)
  go_enter Try.func36, Try.ntmps36
  go_wp2_with (first | (go_at_call 52; refine hl.mono ?_; rintro e w' ⟨rfl, rfl⟩) | (go_at_call 51; refine (pdq_nil _ _).mono ?_; rintro e w' ⟨rfl, rfl⟩))
  go_end0
  exact ⟨rfl, rfl⟩
end Go.Proofs.Ytmnpejoolbipeaa.Given
