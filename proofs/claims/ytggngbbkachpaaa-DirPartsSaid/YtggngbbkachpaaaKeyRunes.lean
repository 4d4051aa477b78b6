/- key.runes walked (a range over a text): at every text of at most 1000000 bytes it returns RunesPlain's runes. -/
import Derived.Test.YtggngbbkachpaaaProg
import Derived.Below
import Derived.Deep.Draws
import Derived.Deep.AppendLies
import Derived.Maps.AppendAt
import Derived.OwnWalk
import Derived.Laws.BytesArg
import Derived.Laws.MakeOwn
import Derived.Laws.OwnMore
import Derived.Deep.OwnRows
import Derived.Tactics
import Derived.Lib.ConvBytes
import Derived.Laws.Slices
import Derived.WalkKit
import Derived.KernelRfl
import Derived.RowKit3
import Derived.Deep.LoopGhost
import Derived.Deep.QuietTactic
import Derived.BigQuiet
import Derived.WideLaws
import Derived.Deep.DeepCutAuto
import Derived.Deep.CutBlock
import Derived.Deep.RegionHeld3
import Derived.Laws.Rows
import Derived.Lib.AppendStr
import Derived.ArgAppend
import Derived.Laws.IdiomCopy
import Derived.OrdersHeld
import Derived.Laws.BitsLemmas
import Derived.RowKit
import Derived.Test.YtggngbbkachpaaaWWords
import Derived.Test.YtggngbbkachpaaaWLast
import Derived.Test.YtggngbbkachpaaaWTab
import Derived.Test.YtggngbbkachpaaaWFour
import Derived.Test.YtggngbbkachpaaaWQPut
import Derived.Test.YtggngbbkachpaaaWApart
import Derived.Test.YtggngbbkachpaaaWArr
import Derived.Test.YtggngbbkachpaaaWZeros
import Derived.Test.YtggngbbkachpaaaWFoot
import Derived.Test.YtggngbbkachpaaaWKept
import Derived.Test.YtggngbbkachpaaaWShare
import Derived.Test.YtggngbbkachpaaaWN
import Derived.Test.YtggngbbkachpaaaWFootNe
import Derived.Test.YtggngbbkachpaaaWAt
import Derived.Test.YtggngbbkachpaaaWEqStruct
import Derived.Test.YtggngbbkachpaaaWRepsOne
import Derived.Test.YtggngbbkachpaaaWInv
import Derived.Test.YtggngbbkachpaaaWInvWords
import Derived.Test.YtggngbbkachpaaaWGuard
import Derived.Test.YtggngbbkachpaaaWNEv
import Derived.Test.YtggngbbkachpaaaWMore
import Derived.StillTailTactics
import Derived.Laws.BitsAllLaws
import Derived.Outline
import Derived.Test.YtggngbbkachpaaaRunesPlain
import Derived.Lib.OthersKept
namespace Go.Proofs.Ytggngbbkachpaaa.Given
open Go.RowKit Go.Proofs Go.Proofs.Ytggngbbkachpaaa.Bs Go.Proofs.Ytggngbbkachpaaa.RunesPlain Go.Proofs.YtggngbbkachpaaaW.PrintWords Go.Proofs.YtggngbbkachpaaaW.PrintLast Go.Proofs.YtggngbbkachpaaaW.PrintMore
set_option linter.unusedVariables false
set_option linter.unusedSimpArgs false
theorem info21 : (Try.prog.info? 21).map (fun i => (i.zero, i.size, i.bytes)) = some (some (.int .i32 0), 1, 4) := by kernel_rfl
theorem pre_in (l : List UInt8) (b : Bool) (hb : (l.take 3 == [239, 191, 189]) = b) (w : World) :
    Calls Try.prog 97 #[.string (bs l), .string ⟨#[239, 191, 189]⟩] w fun e w' => e = .returned (.bool b) ∧ w' = w := by
  by_cases h : 3 ≤ l.length
  · have d : decide ((3 : Int) ≤ ((bs l).size : Int)) = true := by rw [bs_size]; simp; omega
    have hs : 3 ≤ (bs l).size := by rw [bs_size]; exact h
    have hx : (((bs l).extract 0 3).toList == [239, 191, 189]) = b := by rw [bs_extract_zero, bs_toList]; exact hb
    go_enter Try.func97, Try.ntmps97
    go_wp2
    go_ret
    exact ⟨rfl, rfl⟩
  · have d : decide ((3 : Int) ≤ ((bs l).size : Int)) = false := by rw [bs_size]; simp; omega
    have hb' : b = false := by
      rw [← hb]
      apply beq_eq_false_iff_ne.2
      intro e
      have := congrArg List.length e
      rw [List.length_take] at this
      simp at this; omega
    subst hb'
    clear hb
    go_enter Try.func97, Try.ntmps97
    go_wp2
    go_ret
    exact ⟨rfl, rfl⟩
theorem pre_any (l : List UInt8) (b : Bool) (hb : (l.take 3 == [239, 191, 189]) = b) (w : World) :
    Calls Try.prog 63 #[.string (bs l), .string ⟨#[239, 191, 189]⟩] w fun e w' => e = .returned (.bool b) ∧ w' = w := by
  go_enter Try.func63, Try.ntmps63
  go_wp2_with (first | (go_at_call 97; refine (pre_in l b hb _).mono ?_; rintro e w1 ⟨rfl, rfl⟩))
  go_ret
  exact ⟨rfl, rfl⟩
theorem iterAt_other (w : World) (k : Nat) (s : ByteArray) (pos j : Nat) (h : j ≠ k) : (w.iterAt k s pos).heap[j]? = w.heap[j]? := by
  simp [World.iterAt, Array.getElem?_setIfInBounds, Ne.symm h]
theorem below_iterAt {B k : Nat} {a w : World} (h : Below B a w) (hk : B ≤ k) (s : ByteArray) (pos : Nat) : Below B a (w.iterAt k s pos) :=
  h.trans ⟨rfl, rfl, rfl, by simp [World.iterAt], fun j hj => iterAt_other w k s pos j (by omega)⟩
theorem own_ne {d : Kd Int} {e : Nat} {w : World} {base b : Nat} {v : Value} {xs : List Int} (h : d.R e w base (fun k => k ≠ b) v xs) : some b ≠ v.ownBlock :=
  fun hk => h.1 b hk.symm rfl
theorem iterPos_of {w : World} {b : Nat} {s : ByteArray} {pos : Nat} (h : w.heap[b]? = some (.stringIter s pos)) : w.iterPos b = pos := by
  unfold World.iterPos; rw [h]
def intsOf (l : List Nat) : List Int := l.map fun (n : Nat) => (n : Int)
def runesR (s : List UInt8) : List Int × Bool := match runesL s with
  | none => ([], false)
  | some xs => (intsOf xs, true)
set_option maxHeartbeats 1000000 in
set_option maxRecDepth 200000 in
theorem runes_walk (s : List UInt8) (hs : s.length ≤ 1000000) (w : World) :
    Calls Try.prog 125 #[.string (bs s)] w fun e w' => ∃ v : Value, e = .returned (.tuple #[v, .bool (runesR s).2]) ∧ Kd.R (Kd.int .i32) 21 w' w.heap.size (fun _ => True) v (runesR s).1 ∧ Below w.heap.size w w' := by
  obtain ⟨R, hR⟩ : ∃ R, R = runesR s := ⟨_, rfl⟩
  rw [← hR]
  have HR := Aside0.mk hR
  clear hR
  go_enter Try.func125, Try.ntmps125
  go_wp2_with fail
  have hI : (w.iter (bs s) 0).heap[w.heap.size]? = some (.stringIter (bs s) 0) := World.iter_heap w (bs s) 0
  have hb0 : Below w.heap.size w (w.iter (bs s) 0) := (Below.refl _ w).alloc (Nat.le_refl _) _
  have hs0 : w.heap.size < (w.iter (bs s) 0).heap.size := by simp [World.iter]
  have HI := Aside0.mk hI
  have HB0 := Aside0.mk hb0
  clear hI hb0
  go_loopw [4] (fun v4 wr => ∃ (pos : Nat) (xs : List Nat), pos ≤ s.length ∧ wr.heap[w.heap.size]? = some (.stringIter (bs s) pos) ∧ xs.length ≤ pos ∧ Aside0 (runesL s = (runesL (s.drop pos)).map (xs ++ ·)) ∧ Aside0 (Kd.R (Kd.int .i32) 21 wr w.heap.size (fun k => k ≠ w.heap.size) v4 (intsOf xs)) ∧ Aside0 (Below w.heap.size w wr)) (fun _ wr => s.length - World.iterPos wr w.heap.size)
  case atStart => exact ⟨0, [], by omega, HI.out, by simp, ⟨by rw [List.drop_zero]; cases runesL s <;> simp⟩, ⟨Kd.R_nil _ _ _ _ _⟩, HB0⟩
  case round =>
    clear HI HB0
    obtain ⟨pos, xs, hp, hI, hx, HX, HO, HB⟩ := hrel
    have hsw : w.heap.size < wr.heap.size := (Array.getElem?_eq_some_iff.1 hI).1
    have HI := Aside0.mk hI
    by_cases hlt : pos < s.length
    · have hlt' : pos < (bs s).size := by rw [bs_size]; exact hlt
      have hnx := Lib.run_next_any_at (P := Try.prog) wr w.heap.size (bs s) pos
      rw [decode_bs] at hnx
      have hne : s.drop pos ≠ [] := by simp; omega
      cases hd : dec1 (s.drop pos) with
      | none =>
        rw [hd] at hnx
        have hbad := bad_not hd
        replace hnx := fun ty => hnx ty hI hlt'
        simp only [Option.getD_none] at hnx
        have HD := Aside0.mk hd
        have HN := Aside0.mk hne
        have Hbad : ((s.drop pos).take 3 == [239, 191, 189]) = false := by simpa using hbad
        clear hd hne hbad hI
        have hF : runesR s = ([], false) := by
          unfold runesR
          rw [HX.out, runesL_none HN.out HD.out]; rfl
        have HF := Aside0.mk (HR.out.trans hF)
        clear hF
        have hex : (bs s).extract pos (bs s).size = bs (s.drop pos) := by rw [bs_size, bs_extract_end]
        have HBi := Aside0.mk (below_iterAt HB.out (Nat.le_refl _) (bs s) (pos + 1))
        clear HB HO
        revert hnx HBi
        generalize wr.iterAt w.heap.size (bs s) (pos + 1) = W2
        intro hnx HBi
        go_wp2_with (first | (go_at_call 63; refine (pre_any _ _ Hbad _).mono ?_; rintro e w1 ⟨rfl, rfl⟩))
        go_ret2
        exact ⟨_, by rw [HF.out]; rfl, by rw [HF.out]; exact Kd.R_nil _ _ _ _ _, HBi.out⟩
      | some p =>
        obtain ⟨x, n⟩ := p
        rw [hd] at hnx
        replace hnx := fun ty => hnx ty hI hlt'
        simp only [Option.getD_some] at hnx
        have hn := dec1_some hd hne
        rw [List.length_drop] at hn
        have hrun := runesL_some hne hd
        rw [List.drop_drop] at hrun
        have HXn : Aside0 (runesL s = (runesL (s.drop (pos + n))).map ((xs ++ [x]) ++ ·)) := ⟨by
          rw [HX.out, hrun]; cases runesL (s.drop (pos + n)) <;> simp⟩
        have hints : intsOf (xs ++ [x]) = intsOf xs ++ [(x : Int)] := by simp [intsOf]
        have HIN := Aside0.mk hints
        have hlen : (intsOf xs).length ≤ 1000000 := by simp [intsOf]; omega
        have HBi := Aside0.mk (below_iterAt HB.out (Nat.le_refl _) (bs s) (pos + n))
        have HOi := Aside0.mk (Kd.R_step HO.out (w1 := wr.iterAt w.heap.size (bs s) (pos + n)) (fun k hk _ => iterAt_other _ _ _ _ _ hk))
        have HIi := Aside0.mk (Lib.iterAt_heap wr w.heap.size (bs s) pos (pos + n) hI)
        have hsi : w.heap.size < (wr.iterAt w.heap.size (bs s) (pos + n)).heap.size := (Array.getElem?_eq_some_iff.1 HIi.out).1
        have HI0 := HI
        clear HX hrun hints HB HO HI hI
        revert hnx HBi HOi HIi hsi
        generalize wr.iterAt w.heap.size (bs s) (pos + n) = W2
        intro hnx HBi HOi HIi hsi
        by_cases hx5 : x = 65533
        · have hgood := (bad_first (hx5 ▸ hd)).2
          have Hgood : ((s.drop pos).take 3 == [239, 191, 189]) = true := by simpa using hgood
          subst hx5
          have HIN := Aside0.mk (show intsOf (xs ++ [65533]) = intsOf xs ++ [65533] from by simp [intsOf])
          clear hd hne hgood
          have hex : (bs s).extract pos (bs s).size = bs (s.drop pos) := by rw [bs_size, bs_extract_end]
          go_wp2_with (first | (go_at_call 63; refine (pre_any _ _ Hgood _).mono ?_; rintro e w1 ⟨rfl, rfl⟩) | (at_builtin; refine Kd.R_append (Kd.int .i32) (w0 := w) w.heap.size rfl (.tmp 22) (.tmp 24) 168 21 (.int .i32 0) 4 rfl Try.underlying168 info21 rfl (by decide) (by omega) _ (intsOf xs) 65533 [.int .i32 65533] (fun k => k ≠ w.heap.size) (fun _ => False) rfl rfl rfl (fun _ hk => hk.elim) (fun _ hk => by omega) HOi.out HBi.out (by omega) (by omega) ?_; intro v1 w3 ho hb hg hat; rw [← HIN.out] at ho; have HO3 := Aside0.mk ho; have HB3 := Aside0.mk hb; have hI3 := (hg.block w.heap.size hsi (own_ne HOi.out)).trans HIi.out; have HI3 := Aside0.mk hI3; clear ho hb hg hat hI3))
          go_roundw
          case rel => exact ⟨pos + n, xs ++ [65533], by omega, HI3.out, by simp; omega, HXn, HO3, HB3⟩
          case measure => rw [iterPos_of HI3.out, iterPos_of HI0.out]; omega
        · have hq : ((x : Int) == 65533) = false := by simp; omega
          clear hd hne hx5
          go_wp2_with (at_builtin; refine Kd.R_append (Kd.int .i32) (w0 := w) w.heap.size rfl (.tmp 22) (.tmp 24) 168 21 (.int .i32 0) 4 rfl Try.underlying168 info21 rfl (by decide) (by omega) _ (intsOf xs) (x : Int) [.int .i32 (x : Int)] (fun k => k ≠ w.heap.size) (fun _ => False) rfl rfl rfl (fun _ hk => hk.elim) (fun _ hk => by omega) HOi.out HBi.out (by omega) (by omega) ?_; intro v1 w3 ho hb hg hat; rw [← HIN.out] at ho; have HO3 := Aside0.mk ho; have HB3 := Aside0.mk hb; have hI3 := (hg.block w.heap.size hsi (own_ne HOi.out)).trans HIi.out; have HI3 := Aside0.mk hI3; clear ho hb hg hat hI3)
          go_roundw
          case rel => exact ⟨pos + n, xs ++ [x], by omega, HI3.out, by simp; omega, HXn, HO3, HB3⟩
          case measure => rw [iterPos_of HI3.out, iterPos_of HI0.out]; omega
    · obtain rfl : pos = s.length := by omega
      have hnx := Lib.run_next_end_at (P := Try.prog) wr w.heap.size (bs s) s.length
      replace hnx := fun ty => hnx ty hI (by rw [bs_size]; omega)
      have hF : runesR s = (intsOf xs, true) := by
        unfold runesR
        rw [HX.out, List.drop_length, runesL_nil]; simp
      have HF := Aside0.mk (HR.out.trans hF)
      clear hF HI hI
      go_wp2
      go_ret2
      exact ⟨_, by rw [HF.out]; rfl, by rw [HF.out]; exact Kd.R_mono HO.out (fun _ _ => trivial), HB.out⟩
def key_runes.f (a0 : ByteArray) : Option (List Int × Bool) := if a0.size ≤ 1000000 then some (runesR a0.data.toList) else none
theorem key_runes.calls (a0 : ByteArray) (r1 : List Int) (r2 : Bool) (w : World) (h : key_runes.f a0 = some (r1, r2)) :
    Calls Try.prog 125 #[.string a0] w fun e w' => ∃ v0_ : Value, e = .returned (.tuple #[v0_, .bool r2]) ∧ Kd.R (Kd.int .i32) 21 w' w.heap.size (fun _ => True) v0_ r1 ∧ Below w.heap.size w w' := by
  unfold key_runes.f at h
  split at h
  · rename_i hs
    have := runes_walk a0.data.toList (by simpa using hs) w
    rw [← bs_of] at this
    injection h with h
    rw [h] at this
    exact this
  · cases h
end Go.Proofs.Ytggngbbkachpaaa.Given
