/- The contract of wire.Cut (and of slices.Backward at bytes): at every text of at most 2^48 bytes and every size it returns the number and the rest, or why there is none. -/
import Derived.Test.YtmnpejoolbipeaaProg
import Derived.Below
import Derived.Deep.Draws
import Derived.Deep.AppendLies
import Derived.Maps.AppendAt
import Derived.OwnWalk
import Derived.Laws.BytesArg
import Derived.Laws.MakeOwn
import Derived.Laws.OwnMore
import Derived.Deep.OwnRows
import Derived.Tactics
import Derived.Lib.ConvBytes
import Derived.Laws.Slices
import Derived.WalkKit
import Derived.KernelRfl
import Derived.RowKit3
import Derived.Deep.LoopGhost
import Derived.Deep.QuietTactic
import Derived.BigQuiet
import Derived.WideLaws
import Derived.Deep.DeepCutAuto
import Derived.Deep.CutBlock
import Derived.Deep.RegionHeld3
import Derived.Laws.Rows
import Derived.Lib.AppendStr
import Derived.ArgAppend
import Derived.Laws.IdiomCopy
import Derived.OrdersHeld
import Derived.Laws.BitsLemmas
import Derived.RowKit
import Derived.Test.YtmnpejoolbipeaaWWords
import Derived.Test.YtmnpejoolbipeaaWLast
import Derived.Test.YtmnpejoolbipeaaWTab
import Derived.Test.YtmnpejoolbipeaaWFour
import Derived.Test.YtmnpejoolbipeaaWQPut
import Derived.Test.YtmnpejoolbipeaaWApart
import Derived.Test.YtmnpejoolbipeaaWArr
import Derived.Test.YtmnpejoolbipeaaWZeros
import Derived.Test.YtmnpejoolbipeaaWFoot
import Derived.Test.YtmnpejoolbipeaaWKept
import Derived.Test.YtmnpejoolbipeaaWShare
import Derived.Test.YtmnpejoolbipeaaWN
import Derived.Test.YtmnpejoolbipeaaWFootNe
import Derived.Test.YtmnpejoolbipeaaWAt
import Derived.Test.YtmnpejoolbipeaaWEqStruct
import Derived.Test.YtmnpejoolbipeaaWRepsOne
import Derived.Test.YtmnpejoolbipeaaWInv
import Derived.Test.YtmnpejoolbipeaaWInvWords
import Derived.Test.YtmnpejoolbipeaaWGuard
import Derived.Test.YtmnpejoolbipeaaWNEv
import Derived.Test.YtmnpejoolbipeaaWMore
import Derived.RangeFuncBox
import Derived.RangeFuncLeaves
import Derived.RangeFuncNested
import Derived.RangeFuncBound
import Derived.RangeFuncCalls
import Derived.Shelf.Abstract
import Derived.OwnWalkIn
import Derived.TacticsInMore
import Derived.LoopNIn
import Derived.LoopIn
import Derived.Test.YtmnpejoolbipeaaWirePlain
namespace Go.Proofs.Ytmnpejoolbipeaa.Given
open Go.RowKit Go.Shelf Go.Proofs.Ytmnpejoolbipeaa.WirePlain Go.Proofs.YtmnpejoolbipeaaW.PrintWords Go.Proofs.YtmnpejoolbipeaaW.PrintLast Go.Proofs.YtmnpejoolbipeaaW.PrintMore
attribute [local go_sem] Oper.semAt_some
set_option linter.unusedVariables false
set_option linter.unusedSimpArgs false
def upto {α : Type} (f : Nat → α) (k : Nat) : List α := (List.range k).map f
theorem upto_succ {α : Type} (f : Nat → α) (k : Nat) : upto f (k + 1) = upto f k ++ [f k] := by simp [upto, List.range_succ]
theorem upto_length {α : Type} (f : Nat → α) (k : Nat) : (upto f k).length = k := by simp [upto]
/-- The blocks in S are as they were. -/
def KB (S : Nat → Prop) (W W' : World) : Prop := ∀ k, S k → W'.heap[k]? = W.heap[k]?
theorem KB.refl (S : Nat → Prop) (W : World) : KB S W W := fun _ _ => rfl
theorem KB.trans {S : Nat → Prop} {A B C : World} (h : KB S A B) (k : KB S B C) : KB S A C := fun j hj => (k j hj).trans (h j hj)
theorem KB.cell {S : Nat → Prop} {A B : World} (h : KB S A B) {b i : Nat} (hb : S b) : B.cell? ⟨b, i, none⟩ = A.cell? ⟨b, i, none⟩ := by simp [World.cell?, h b hb]
theorem KB.put {S : Nat → Prop} {w : World} (hS : ∀ k, S k → k < w.heap.size) (W : World) (l : Nat) (o o' : Obj) (hl : w.heap.size ≤ l) (h : W.heap[l]? = some o) (_ : o.isCells = false) (_ : o.isWalk = false) : KB S W (W.putObj l o') :=
  fun k hk => World.putObj_heap_other (by have := hS k hk; omega)
theorem KB.set {S : Nat → Prop} (W : World) {b i : Nat} (hb : ¬ S b) (v : Value) : KB S W (W.setCell ⟨b, i, none⟩ v) := fun k hk => heap_setCell_other _ _ _ _ (fun e => hb (by have e : k = b := e; rw [← e]; exact hk))
def bw (zs : List UInt8) (k : Nat) : Nat × UInt8 := (zs.length - 1 - k, zs[zs.length - 1 - k]?.getD 0)
set_option maxRecDepth 100000 in
set_option maxHeartbeats 2000000 in
theorem back1_in (F : Fence) (n : Nat) (h31 : F.fn 70) (hro : F.round = none) (hn : 1 ≤ n) (l Bs b cap : Nat) (S : Nat → Prop) (zs : List UInt8) (hreach : zs.length ≤ 140737488351232) (hb : S b) (J Jx : List (Nat × UInt8) → World → Prop)
    (hY : ∀ pre x W, J pre W → pre.length < zs.length → YieldAt F (n - 1) Try.prog l #[.int .i64 (x.1 : Int), .int .u8 (x.2.toNat : Int)] W fun e W' =>
      (e = .returned (.bool true) ∧ J (pre ++ [x]) W' ∧ KB S W W') ∨ (e = .returned (.bool false) ∧ Jx (pre ++ [x]) W'))
    (W : World) (hBn : S Bs) (hBs : W.cell? ⟨Bs, 0, none⟩ = some (.slice (some ⟨b, 0, none⟩) zs.length cap)) (hc : ∀ j, j < zs.length → W.cell? ⟨b, j, none⟩ = some (.int .u8 ((zs[j]?.getD 0).toNat : Int))) (h0 : J [] W) :
    CallsIn F n Try.prog 70 #[.func (.yield l) #[] #[], .pointer (some ⟨Bs, 0, none⟩)] W fun e W' => (∃ v, e = .returned v) ∧
      ((∃ ys, ys = upto (bw zs) zs.length ∧ J ys W') ∨ (∃ pre, (∃ k, k ≤ zs.length ∧ pre = upto (bw zs) k) ∧ Jx pre W')) := by
  refine callsIn_of_wp Try.func70 rfl h31 ?_ hro
  simp only [Try.ntmps70, List.size_toArray, List.length_cons, List.length_nil, Nat.reduceAdd, Nat.reduceSub, Array.replicate_succ, Array.replicate_zero, List.push_toArray, List.append_toArray, List.nil_append, List.cons_append]
  gi_wp2
  gi_loopw [3] (fun i wr => ∃ m : Nat, m ≤ zs.length ∧ i = .int .i64 ((m : Int) - 1) ∧ J (upto (bw zs) (zs.length - m)) wr ∧ KB S W wr)
    (fun i _ => (intOf i + 1).toNat)
  case atStart => exact ⟨zs.length, Nat.le_refl _, rfl, by rw [Nat.sub_self]; exact h0, KB.refl _ _⟩
  case round =>
    obtain ⟨m, hm, rfl, hJs, hnx⟩ := hrel
    have hBs' : wr.cell? ⟨Bs, 0, none⟩ = some (.slice (some ⟨b, 0, none⟩) zs.length cap) := (hnx.cell hBn).trans hBs
    cases m with
    | succ m =>
      have hcx : wr.cell? ⟨b, m, none⟩ = some (.int .u8 ((zs[m]?.getD 0).toNat : Int)) := (hnx.cell hb).trans (hc m (by omega))
      obtain ⟨c, hcd⟩ : ∃ c, c = zs[m]?.getD 0 := ⟨_, rfl⟩
      rw [← hcd] at hcx
      have Hc := Aside0.mk hcd
      clear hcd
      have hi : ((m + 1 : Nat) : Int) - 1 = (m : Int) := by omega
      rw [hi]
      obtain ⟨fn, tmps, assign, body, hy, hR⟩ := hY _ (m, c) wr hJs (by rw [upto_length]; omega)
      dsimp only at hy
      clear hi
      have hup : upto (bw zs) (zs.length - (m + 1)) ++ [(m, c)] = upto (bw zs) (zs.length - m) := by
        have e : zs.length - m = (zs.length - (m + 1)) + 1 := by omega
        rw [e, upto_succ]
        have e2 : zs.length - 1 - (zs.length - (m + 1)) = m := by omega
        rw [bw, e2, Hc.out]
      have Hup := Aside0.mk hup
      clear hup
      gi_wp2
      refine hR.mono ?_
      rintro e W3 (⟨rfl, hJ3, hk3⟩ | ⟨rfl, hJx3⟩)
      · gi_wp2
        go_roundw
        case rel => exact ⟨m, by omega, rfl, by rw [← Hup.out]; exact hJ3, hnx.trans hk3⟩
        case measure => simp [intOf]
      · gi_wp2
        refine bodyPost_ret (results_none rfl _ _ _) rfl ?_
        exact ⟨⟨_, rfl⟩, .inr ⟨_, ⟨zs.length - m, by omega, Hup.out⟩, hJx3⟩⟩
    | zero =>
      gi_wp2
      go_end0
      exact ⟨⟨_, rfl⟩, .inl ⟨_, rfl, hJs⟩⟩
set_option maxHeartbeats 1000000 in
theorem back_in (F : Fence) (n : Nat) (h30 : F.fn 56) (hro : F.round = none) (a : Option Addr) (len cap : Nat) (w : World) :
    CallsIn F n Try.prog 56 #[.slice a len cap] w fun e w' => e = .returned (.func (.func 70) #[] #[.pointer (some ⟨w.heap.size, 0, none⟩)]) ∧ w' = w.alloc (.cells #[.slice a len cap] 99) := by
  refine callsIn_of_wp Try.func56 rfl h30 ?_ hro
  simp only [Try.ntmps56, List.size_toArray, List.length_cons, List.length_nil, Nat.reduceAdd, Nat.reduceSub, Array.replicate_succ, Array.replicate_zero, List.push_toArray, List.append_toArray, List.nil_append, List.cons_append]
  gi_wp2
  go_ret
  exact ⟨rfl, rfl⟩
theorem back_stops (F : Fence) (n : Nat) (h31 : F.fn 70) (hro : F.round = none) (hn : 1 ≤ n) (Bs b cap : Nat) (S : Nat → Prop) (zs : List UInt8) (hreach : zs.length ≤ 140737488351232) (w : World) (hBs : S Bs) (hS : ∀ k, S k → k < w.heap.size) (hb : S b)
    (hc : w.cell? ⟨Bs, 0, none⟩ = some (.slice (some ⟨b, 0, none⟩) zs.length cap)) (hI : ∀ j, j < zs.length → w.cell? ⟨b, j, none⟩ = some (.int .u8 ((zs[j]?.getD 0).toNat : Int))) :
    SeqStopsK F n Try.prog 70 #[.pointer (some ⟨Bs, 0, none⟩)] (fun x : Nat × UInt8 => #[Value.int .i64 (x.1 : Int), Value.int .u8 (x.2.toNat : Int)]) (KB S) (fun ys => ys = upto (bw zs) zs.length)
      (fun pre => ∃ k, k ≤ zs.length ∧ pre = upto (bw zs) k) zs.length w := fun l J Jx W hW _ _ hY h0 => 
  back1_in F n h31 hro hn l Bs b cap S zs hreach hb J Jx hY W hBs ((hW.cell (p := ⟨Bs, 0, none⟩) (hS _ hBs)).trans hc)
    (fun j hj => (hW.cell (p := ⟨b, j, none⟩) (hS _ hb)).trans (hI j hj)) h0
def valI (pre : List (Nat × UInt8)) : Int := pre.foldl (fun n p => wrap64 (wrap64 (n * 256) + wrap64 (p.2.toNat : Int))) 0
theorem valI_snoc (pre : List (Nat × UInt8)) (x : Nat × UInt8) : valI (pre ++ [x]) = wrap64 (wrap64 (valI pre * 256) + wrap64 (x.2.toNat : Int)) := by simp [valI]
set_option maxRecDepth 100000 in
set_option maxHeartbeats 2000000 in
theorem cut_walk (a0 : ByteArray) (k : Nat) (h1 : 1 ≤ k) (h7 : k ≤ 7) (hk : k ≤ a0.size) (hs : a0.size ≤ 281474976710656) (w : World) :
    Calls Try.prog 44 #[.string a0, .int .i64 k] w fun e w' => e = .returned (.tuple #[.int .i64 (valI (upto (bw (a0.extract 0 k).data.toList) k)), .string (a0.extract k a0.size), .int .i64 0]) ∧ Below w.heap.size w w' := by
  have kb := fun W => print_bytes (P := Try.prog) 9 99 5 Try.underlying9 Try.underlying99 Try.underlying5 (a0.extract 0 k) W
  have hd1 : decide ((k : Int) < 1) = false := by simp; omega
  have hd2 : decide (7 < (k : Int)) = false := by simp; omega
  have hd3 : decide (a0.size < k) = false := by simp; omega
  refine (callsIn_wide (n := 9)).1 ?_
  refine callsIn_of_wp_marks Try.func44 rfl trivial ?_ rfl
  simp only [Try.ntmps44, List.size_toArray, List.length_cons, List.length_nil, Nat.reduceAdd, Nat.reduceSub, Array.replicate_succ, Array.replicate_zero, List.push_toArray, List.append_toArray, List.nil_append, List.cons_append]
  gi_wp2_with (first | (refine ⟨trivial, ?_⟩; gi_at_call 56; refine (back_in Fence.wide 8 trivial rfl _ _ _ _).mono ?_; rintro e w1 ⟨rfl, rfl⟩))
  have hsub : (a0.extract 0 k).size = k := by rw [ByteArray.size_extract]; omega
  have hsz : (Lib.bytesWorld (w.alloc (.cells #[.int .i64 0] 3)) 5 (a0.extract 0 k)).heap.size = w.heap.size + 2 := by rw [Lib.bytesWorld_size]; simp
  have hbx := Boxed.new (Lib.bytesWorld (w.alloc (.cells #[.int .i64 0] 3)) 5 (a0.extract 0 k)) 99 (.slice (some ⟨w.heap.size + 1, 0, none⟩) k (grownCap (w.alloc (.cells #[.int .i64 0] 3)) k 0 5))
  have hb0 : Below w.heap.size w ((Lib.bytesWorld (w.alloc (.cells #[.int .i64 0] 3)) 5 (a0.extract 0 k)).alloc (.cells #[.slice (some ⟨w.heap.size + 1, 0, none⟩) k (grownCap (w.alloc (.cells #[.int .i64 0] 3)) k 0 5)] 99)) :=
    (bytes_below ((Below.refl _ w).alloc (Nat.le_refl _) _) (by simp) 5 _).alloc (by rw [hsz]; omega) _
  have hn : ((Lib.bytesWorld (w.alloc (.cells #[.int .i64 0] 3)) 5 (a0.extract 0 k)).alloc (.cells #[.slice (some ⟨w.heap.size + 1, 0, none⟩) k (grownCap (w.alloc (.cells #[.int .i64 0] 3)) k 0 5)] 99)).heap[w.heap.size]? = some (.cells #[.int .i64 0] 3 (0, 0)) := by
    rw [blk_alloc (o := .cells #[.int .i64 0] 3) ?_ _]
    rw [Lib.bytesWorld_at_old _ _ _ _ (by simp)]; exact blk_new _ _
  have hcs : ∀ j, j < k → ((Lib.bytesWorld (w.alloc (.cells #[.int .i64 0] 3)) 5 (a0.extract 0 k)).alloc (.cells #[.slice (some ⟨w.heap.size + 1, 0, none⟩) k (grownCap (w.alloc (.cells #[.int .i64 0] 3)) k 0 5)] 99)).cell? ⟨w.heap.size + 1, j, none⟩ = some (.int .u8 (((a0.extract 0 k).data.toList[j]?.getD 0).toNat : Int)) := by
    intro j hj
    rw [World.cell?_alloc_past _ _ _ (by rw [hsz]; simp)]
    have := Lib.bytesWorld_cell (w.alloc (.cells #[.int .i64 0] 3)) 5 (a0.extract 0 k) j (by rw [hsub]; exact hj)
    simpa using this
  rw [hsz] at hbx ⊢
  have hsz3 : ((Lib.bytesWorld (w.alloc (.cells #[.int .i64 0] 3)) 5 (a0.extract 0 k)).alloc (.cells #[.slice (some ⟨w.heap.size + 1, 0, none⟩) k (grownCap (w.alloc (.cells #[.int .i64 0] 3)) k 0 5)] 99)).heap.size = w.heap.size + 3 := by rw [World.size_alloc, hsz]
  clear hsz
  revert hbx hb0 hn hcs hsz3
  generalize grownCap (w.alloc (.cells #[.int .i64 0] 3)) k 0 5 = cap
  generalize ((Lib.bytesWorld (w.alloc (.cells #[.int .i64 0] 3)) 5 (a0.extract 0 k)).alloc (.cells #[.slice (some ⟨w.heap.size + 1, 0, none⟩) k cap] 99)) = W3
  intro hbx hb0 hn hcs hsz3
  have hlen : (a0.extract 0 k).data.toList.length = k := by rw [data_length, hsub]
  obtain ⟨zs, hzs⟩ : ∃ zs, zs = (a0.extract 0 k).data.toList := ⟨_, rfl⟩
  rw [← hzs] at hlen hcs
  subst hlen
  have Hzs := Aside0.mk hzs
  clear hzs hsub kb
  refine wpIn_rangeFunc_ownG rfl (by omega) (gf := 70) (lb := #[.pointer (some ⟨w.heap.size + 2, 0, none⟩)]) rfl trivial (enters_of Try.func70 (by kernel_rfl) rfl)
    (back_stops Fence.wide 8 trivial rfl (by omega) (w.heap.size + 2) (w.heap.size + 1) cap (fun k => k = w.heap.size + 1 ∨ k = w.heap.size + 2) zs (by omega) W3 (.inr rfl) (by rintro k (rfl | rfl) <;> omega) (.inl rfl) hbx.cell hcs) KB.trans (KB.put (by rintro k (rfl | rfl) <;> omega)) (Below.refl _ _) (fun _ => rfl)
    (fun pre W => (W.cell? ⟨w.heap.size, 0, none⟩ = some (.int .i64 (valI pre)) ∧ W.frozen? ⟨w.heap.size, 0, none⟩ = false) ∧ Below w.heap.size w W)
    (fun _ _ _ => False)
    (OwnFrom.and (Own.from (fun s A B row hs hg hr => ⟨cell_kept hs.1 hg hr, (frozen_kept hs.1 hg hr).trans hs.2⟩) _) (ownFrom_below (Nat.le_refl _) (by omega)))
    (fun _ _ _ _ _ hs _ _ => hs)
    ⟨⟨blk_cell hn 0, blk_frozen hn 0⟩, hb0⟩
    (fun x => { tmps := #[.string a0, .int .i64 zs.length, undef, undef, .int .i64 0, .string { data := #[] }, .int .i64 0, .pointer (some ⟨w.heap.size, 0, none⟩), undef, .int .u8 x.2.toNat, .bool false, .int .i64 zs.length, .bool false, .bool false, .int .i64 zs.length, .bool false, .bool false, .bool false, .string a0, .int .i64 a0.size, .int .i64 zs.length, .bool false, .string a0, .int .i64 zs.length, .string (a0.extract 0 zs.length), .slice (some ⟨w.heap.size + 1, 0, none⟩) zs.length cap, .func (.func 70) #[] #[.pointer (some ⟨w.heap.size + 2, 0, none⟩)], .int .i64 x.1, .int .u8 x.2.toNat, undef, undef, undef, undef, undef, undef, undef, undef, undef], defers := [] }) ?assign ?body ?done ?stop
  case assign =>
    intro l x W K hK
    gi_wp2
    exact hK
  case body =>
    rintro l pre x W ⟨⟨hc, hf⟩, hB⟩ _
    gi_wp2
    refine ⟨(KeepsOthers.setCell _ _ _).from _, KB.set W (by omega) _, ⟨?_, ?_⟩, hB.setCell (p := ⟨w.heap.size, 0, none⟩) (Nat.le_refl _) _⟩
    · rw [valI_snoc]; exact World.cell?_setCell_same' _ _ _ (by rw [hc]; rfl)
    · rw [World.frozen?_setCell]; exact hf
  case done =>
    rintro D ys W hD rfl ⟨⟨hc, _⟩, hB⟩ hK
    gi_wp2
    gi_region
    all_goals gi_wp2
    all_goals
      refine ⟨by simp, .inl ⟨_, _, rfl, run_takeDeferred (w := W.drew) hK, ?_⟩⟩
      refine ⟨_, results_tmp3 rfl _ _ _, by rw [← Hzs.out]; rfl, (below_drew hB).trans (belowK_b (w := w) (Nat.le_refl _) W.drew D _ _ (by omega) hK rfl rfl)⟩
  case stop =>
    rintro D c pre W _ _ h _
    exact h.elim
/-! ### the number, plainly -/
theorem valI_go (zs : List UInt8) (hz : zs.length ≤ 7) : ∀ k, k ≤ zs.length → valI (upto (bw zs) k) = (lowN (zs.drop (zs.length - k)) : Nat) := by
  intro k
  induction k with
  | zero => intro _; simp [upto, valI, lowN]
  | succ k ih =>
    intro hk
    rw [upto_succ, valI_snoc, ih (by omega)]
    have hd : zs.drop (zs.length - (k + 1)) = zs[zs.length - (k + 1)] :: zs.drop (zs.length - k) := by
      rw [List.drop_eq_getElem_cons (by omega), show zs.length - (k + 1) + 1 = zs.length - k by omega]
    rw [hd]
    have e1 : (bw zs k).2 = zs[zs.length - (k + 1)] := by
      simp only [bw, show zs.length - 1 - k = zs.length - (k + 1) by omega]
      rw [List.getElem?_eq_getElem (by omega)]; rfl
    rw [e1]
    have hl := lowN_lt (zs.drop (zs.length - k))
    have hlen : (zs.drop (zs.length - k)).length = k := by rw [List.length_drop]; omega
    rw [hlen] at hl
    have hp : 256 ^ k ≤ 256 ^ 6 := Nat.pow_le_pow_right (by decide) (by omega)
    have h6 : (256 : Nat) ^ 6 = 281474976710656 := by decide
    have hc := (zs[zs.length - (k + 1)]).toNat_lt
    simp only [lowN]
    unfold wrap64
    omega
theorem cut_value (a0 : ByteArray) (k : Nat) (h7 : k ≤ 7) (hk : k ≤ a0.size) : valI (upto (bw (a0.extract 0 k).data.toList) k) = (lowN (a0.data.toList.take k) : Nat) := by
  have hsub : (a0.extract 0 k).data.toList = a0.data.toList.take k := by
    rw [ByteArray.data_extract]; simp [List.extract_eq_take_drop]
  have hlen : (a0.data.toList.take k).length = k := by rw [List.length_take, data_length]; omega
  rw [hsub]
  have := valI_go (a0.data.toList.take k) (by omega) k (by omega)
  rw [this, hlen, Nat.sub_self, List.drop_zero]
def wire_Cut.f (a0 : ByteArray) (a1 : Int) : Option (Int × ByteArray × Int) :=
  if a0.size ≤ 281474976710656 then (if a1 < 1 then some (0, (⟨#[]⟩ : ByteArray), 1) else if 7 < a1 then some (0, (⟨#[]⟩ : ByteArray), 1) else if (a0.size : Int) < a1 then some (0, (⟨#[]⟩ : ByteArray), 4)
    else some (((lowN (a0.data.toList.take a1.toNat) : Nat) : Int), a0.extract a1.toNat a0.size, 0)) else none
theorem cut_arg (a0 : ByteArray) (a1 : Int) (h : a1 < 1 ∨ 7 < a1) (w : World) :
    Calls Try.prog 44 #[.string a0, .int .i64 a1] w fun e w' => e = .returned (.tuple #[.int .i64 0, .string ⟨#[]⟩, .int .i64 1]) ∧ Below w.heap.size w w' := by
  by_cases h1 : a1 < 1
  · have hd1 : decide (a1 < 1) = true := by simpa using h1
    go_enter Try.func44, Try.ntmps44
    go_wp2
    go_ret3
    exact ⟨rfl, Below.refl _ _⟩
  · have h2 : 7 < a1 := by omega
    have hd1 : decide (a1 < 1) = false := by simpa using h1
    have hd2 : decide (7 < a1) = true := by simpa using h2
    go_enter Try.func44, Try.ntmps44
    go_wp2
    go_ret3
    exact ⟨rfl, Below.refl _ _⟩
theorem cut_short (a0 : ByteArray) (a1 : Int) (h1 : 1 ≤ a1) (h2 : a1 ≤ 7) (h : (a0.size : Int) < a1) (w : World) :
    Calls Try.prog 44 #[.string a0, .int .i64 a1] w fun e w' => e = .returned (.tuple #[.int .i64 0, .string ⟨#[]⟩, .int .i64 4]) ∧ Below w.heap.size w w' := by
  have hd1 : decide (a1 < 1) = false := by simp; omega
  have hd2 : decide (7 < a1) = false := by simp; omega
  have hd3 : decide ((a0.size : Int) < a1) = true := by simpa using h
  go_enter Try.func44, Try.ntmps44
  go_wp2
  go_ret3
  exact ⟨rfl, Below.refl _ _⟩
theorem wire_Cut.calls (a0 : ByteArray) (a1 : Int) (r1 : Int) (r2 : ByteArray) (r3 : Int) (w : World) (h : wire_Cut.f a0 a1 = some (r1, r2, r3)) :
    Calls Try.prog 44 #[.string a0, .int .i64 a1] w fun e w' => e = .returned (.tuple #[.int .i64 r1, .string r2, .int .i64 r3]) ∧ Below w.heap.size w w' := by
  unfold wire_Cut.f at h
  by_cases h0 : a0.size ≤ 281474976710656
  · rw [if_pos h0] at h
    by_cases h1 : a1 < 1
    · rw [if_pos h1] at h; cases h; exact cut_arg a0 a1 (.inl h1) w
    · rw [if_neg h1] at h
      by_cases h2 : 7 < a1
      · rw [if_pos h2] at h; cases h; exact cut_arg a0 a1 (.inr h2) w
      · rw [if_neg h2] at h
        by_cases h3 : (a0.size : Int) < a1
        · rw [if_pos h3] at h; cases h; exact cut_short a0 a1 (by omega) (by omega) h3 w
        · rw [if_neg h3] at h; cases h
          obtain ⟨k, rfl⟩ := Int.eq_ofNat_of_zero_le (show 0 ≤ a1 by omega)
          rw [Int.toNat_natCast, ← cut_value a0 k (by omega) (by omega)]
          exact cut_walk a0 k (by omega) (by omega) (by omega) h0 w
  · rw [if_neg h0] at h; cases h
end Go.Proofs.Ytmnpejoolbipeaa.Given
