/- dir.Get walked: the first pair of a key. -/
import Derived.Test.YtggngbbkachpaaaProg
import Derived.Below
import Derived.Deep.Draws
import Derived.Deep.AppendLies
import Derived.Maps.AppendAt
import Derived.OwnWalk
import Derived.Laws.BytesArg
import Derived.Laws.MakeOwn
import Derived.Laws.OwnMore
import Derived.Deep.OwnRows
import Derived.Tactics
import Derived.Lib.ConvBytes
import Derived.Laws.Slices
import Derived.WalkKit
import Derived.KernelRfl
import Derived.RowKit3
import Derived.Deep.LoopGhost
import Derived.Deep.QuietTactic
import Derived.BigQuiet
import Derived.WideLaws
import Derived.Deep.DeepCutAuto
import Derived.Deep.CutBlock
import Derived.Deep.RegionHeld3
import Derived.Laws.Rows
import Derived.Lib.AppendStr
import Derived.ArgAppend
import Derived.Laws.IdiomCopy
import Derived.OrdersHeld
import Derived.Laws.BitsLemmas
import Derived.RowKit
import Derived.Test.YtggngbbkachpaaaWWords
import Derived.Test.YtggngbbkachpaaaWLast
import Derived.Test.YtggngbbkachpaaaWTab
import Derived.Test.YtggngbbkachpaaaWFour
import Derived.Test.YtggngbbkachpaaaWQPut
import Derived.Test.YtggngbbkachpaaaWApart
import Derived.Test.YtggngbbkachpaaaWArr
import Derived.Test.YtggngbbkachpaaaWZeros
import Derived.Test.YtggngbbkachpaaaWFoot
import Derived.Test.YtggngbbkachpaaaWKept
import Derived.Test.YtggngbbkachpaaaWShare
import Derived.Test.YtggngbbkachpaaaWN
import Derived.Test.YtggngbbkachpaaaWFootNe
import Derived.Test.YtggngbbkachpaaaWAt
import Derived.Test.YtggngbbkachpaaaWEqStruct
import Derived.Test.YtggngbbkachpaaaWRepsOne
import Derived.Test.YtggngbbkachpaaaWInv
import Derived.Test.YtggngbbkachpaaaWInvWords
import Derived.Test.YtggngbbkachpaaaWGuard
import Derived.Test.YtggngbbkachpaaaWNEv
import Derived.Test.YtggngbbkachpaaaWMore
import Derived.StillTailTactics
import Derived.Laws.BitsAllLaws
import Derived.Outline
import Derived.Lib.OthersKept
import Derived.Test.YtggngbbkachpaaaBs
import Derived.Deep.RegionLaw
import Derived.Lib.AppendZerosOnto
import Derived.Lib.Overlaps
import Derived.Laws.IdiomCopy
import Derived.Laws.Externs
import Derived.Deep.AppendSrc
import Derived.Lib.SliceRun
import Derived.Lib.Hide
import Derived.Test.YtggngbbkachpaaaPDix0
namespace Go.Proofs.Ytggngbbkachpaaa.Given
open Go.RowKit Go.Proofs Go.Proofs.Ytggngbbkachpaaa.Bs Go.Proofs.Ytggngbbkachpaaa.PDi Go.Proofs.YtggngbbkachpaaaW.PrintWords Go.Proofs.YtggngbbkachpaaaW.PrintLast Go.Proofs.YtggngbbkachpaaaW.PrintMore
set_option linter.unusedVariables false
set_option linter.unusedSimpArgs false
def atF (l : List S75) (key : ByteArray) : Nat := l.findIdx (fun p => p.f0.toList == key.toList)
theorem atF_le (l : List S75) (key : ByteArray) : atF l key ≤ l.length := List.findIdx_le_length
theorem rd_elem (l : List S75) (i : Nat) (h : i < l.length) : rd_T75 l (i : Int) = l[i] := by
  unfold rd_T75
  rw [Int.toNat_natCast, List.getD_eq_getElem?_getD, List.getElem?_eq_getElem h]
  rfl
theorem atF_hit (l : List S75) (key : ByteArray) (x : Nat) (h : x < l.length) (hx : x ≤ atF l key) (hp : ((rd_T75 l (x : Int)).f0.toList == key.toList) = true) : atF l key = x := by
  rw [rd_elem l x h] at hp
  rcases Nat.lt_or_ge x (atF l key) with h1 | h1
  · have := List.not_of_lt_findIdx h1
    rw [hp] at this
    cases this
  · omega
theorem atF_miss (l : List S75) (key : ByteArray) (x : Nat) (h : x < l.length) (hx : x ≤ atF l key) (hp : ((rd_T75 l (x : Int)).f0.toList == key.toList) = false) : x + 1 ≤ atF l key := by
  rw [rd_elem l x h] at hp
  rcases Nat.lt_or_ge x (atF l key) with h1 | h1
  · omega
  · have he : atF l key = x := by omega
    have h2 : atF l key < l.length := by omega
    have : ((l[atF l key]).f0.toList == key.toList) = true := List.findIdx_getElem (w := h2)
    simp only [he] at this
    rw [hp] at this
    cases this
set_option maxHeartbeats 1000000 in
theorem get1_calls (p : S75) (key : ByteArray) (kb : Nat) (w : World) (hk : w.heap[kb]? = some (.cells #[.string key] 9 (0, 0))) : Calls Try.prog 50 #[.agg #[.string p.f0, .string p.f1], .pointer (some ⟨kb, 0, none⟩)] w fun e w' => e = .returned (.bool (p.f0.toList == key.toList)) ∧ Below w.heap.size w w' := by
  have hu := Try.underlying75
  have hz := blk_cell hk 0
  have hlt := blk_lt hk
  simp at hz
  clear hk
  go_enter Try.func50, Try.ntmps50
  go_wp2
  go_ret
  exact ⟨rfl, (Below.refl _ _).alloc (Nat.le_refl _) _⟩
set_option maxHeartbeats 4000000 in
set_option maxRecDepth 100000 in
theorem index_calls (A : Option Addr) (c : Nat) (l : List S75) (key : ByteArray) (kb : Nat) (w : World) (hk : w.heap[kb]? = some (.cells #[.string key] 9 (0, 0))) (hr : Kd.C k75 w A l.length l) :
    Calls Try.prog 49 #[.slice A l.length c, .func (.func 50) #[] #[.pointer (some ⟨kb, 0, none⟩)]] w fun e w' => e = .returned (.int .i64 (if atF l key < l.length then (atF l key : Int) else -1)) ∧ Below w.heap.size w w' := by
  have hl := hr.2.1
  have HR := Aside0.mk hr
  have HK := Aside0.mk hk
  have HL := Aside0.mk hl
  clear hr hk hl
  have hu := Try.underlying75
  obtain ⟨R, hR⟩ : ∃ R, R = atF l key := ⟨_, rfl⟩
  rw [← hR]
  have HRr := Aside0.mk hR
  clear hR
  obtain ⟨V, hV⟩ : ∃ V : Int, V = if R < l.length then (R : Int) else -1 := ⟨_, rfl⟩
  rw [← hV]
  have HV := Aside0.mk hV
  clear hV
  go_enter Try.func49, Try.ntmps49
  go_wp2
  go_loopw [8] (fun u8 wr => ∃ x : Nat, u8 = .int .i64 (x : Int) ∧ Aside0 (x ≤ R ∧ x ≤ l.length) ∧ Aside0 (Below w.heap.size w wr)) (fun u8 _ => l.length - (intOf u8).toNat)
  case atStart => exact ⟨0, rfl, ⟨by omega, by omega⟩, ⟨Below.refl _ _⟩⟩
  case round =>
    obtain ⟨x, rfl, HX, HB⟩ := hrel
    have h5 := HL.out
    have h6 := HX.out
    by_cases hlt : x < l.length
    · have p1 : 0 ≤ (x : Int) := by omega
      have q1 : (x : Int) < (l.length : Int) := by omega
      obtain ⟨ad, e1, hx0, hx1⟩ := at_T75 (Kd.C_below HR.out HB.out) (x : Int) p1 q1
      cases e1
      simp only [Int.toNat_natCast] at hx0 hx1
      have y2 : decide ((x : Int) < (l.length : Int)) = true := decide_eq_true q1
      have y3 : decide (x < l.length) = true := decide_eq_true hlt
      have HKr := Aside0.mk (blk_below HK.out HB.out)
      obtain ⟨b, hb0⟩ : ∃ b, b = ((rd_T75 l (x : Int)).f0.toList == key.toList) := ⟨_, rfl⟩
      have HG : Aside0 (Calls Try.prog 50 #[.agg #[.string (rd_T75 l (x : Int)).f0, .string (rd_T75 l (x : Int)).f1], .pointer (some ⟨kb, 0, none⟩)] wr fun e w' => e = .returned (.bool b) ∧ Below wr.heap.size wr w') := ⟨by rw [hb0]; exact get1_calls _ key kb wr HKr.out⟩
      have HB0 := Aside0.mk hb0
      clear hb0
      cases b with
      | true =>
        have hRx : R = x := HRr.out.trans (atF_hit l key x hlt (by rw [← HRr.out]; exact h6.1) HB0.out.symm)
        subst hRx
        have HLT := Aside0.mk hlt
        clear hlt h6 HX
        go_wp2_with (go_at_call 50; refine HG.out.mono ?_; rintro e w2 ⟨rfl, hb⟩; have HB2 := Aside0.mk (below_step HB.out hb); clear hb hx0 hx1 HG)
        go_ret
        exact ⟨by rw [HV.out, if_pos HLT.out]; rfl, HB2.out⟩
      | false =>
        have h7 : x + 1 ≤ R := by have := atF_miss l key x hlt (by rw [← HRr.out]; exact h6.1) HB0.out.symm; rw [HRr.out]; exact this
        have H7 := Aside0.mk h7
        have HLT := Aside0.mk hlt
        clear hlt h6 h7 HX
        go_wp2_with (go_at_call 50; refine HG.out.mono ?_; rintro e w2 ⟨rfl, hb⟩; have HB2 := Aside0.mk (below_step HB.out hb); clear hb hx0 hx1 HG)
        go_roundw
        case rel => exact ⟨x + 1, by go_num, ⟨H7.out, by have := HLT.out; omega⟩, HB2⟩
        case measure => have := HLT.out; simp [intOf]; omega
    · obtain rfl : x = l.length := by omega
      have hRl : R = l.length := by have := atF_le l key; have := HRr.out; omega
      have y2 : decide ((l.length : Int) < (l.length : Int)) = false := decide_eq_false (by omega)
      have HRl := Aside0.mk hRl
      clear hRl h6 HX
      go_wp2
      go_ret
      exact ⟨by rw [HV.out, if_neg (by have := HRl.out; omega)]; rfl, HB.out⟩
def getF (l : List S75) (key : ByteArray) : ByteArray × Bool := if atF l key < l.length then ((rd_T75 l (atF l key : Nat)).f1, true) else (⟨#[]⟩, false)
def dir_Get.f (l : List S75) (key : ByteArray) : Option (ByteArray × Bool) := some (getF l key)
set_option maxHeartbeats 2000000 in
theorem dir_Get.calls (A0 : Option Addr) (c0 : Nat) (l0 : List S75) (a1 : ByteArray) (r1 : ByteArray) (r2 : Bool) (w : World) (hr0 : Kd.C k75 w A0 l0.length l0) (hc0 : l0.length ≤ c0) (h : dir_Get.f l0 a1 = some (r1, r2)) :
    Calls Try.prog 19 #[.slice A0 l0.length c0, .string a1] w fun e w' => e = .returned (.tuple #[.string r1, .bool r2]) ∧ Below w.heap.size w w' := by
  have h' := Option.some.inj h
  unfold getF at h'
  have hmf : ∀ (fn : Fn) (first cap : Array Value) (w : World), (Instr.makeFunc fn first cap).run Try.prog w = .ok (.func fn first cap) w := fun _ _ _ _ => rfl
  have hu := Try.underlying75
  have hkb := blk_new w (.cells #[.string a1] 9)
  have HA : Aside0 (Below w.heap.size w (w.alloc (.cells #[.string a1] 9))) := ⟨(Below.refl _ _).alloc (Nat.le_refl _) _⟩
  have HR := Aside0.mk (Kd.C_below hr0 HA.out)
  have HKB := Aside0.mk hkb
  have HRW := Aside0.mk hr0
  clear hr0 hkb h
  obtain ⟨R, hR⟩ : ∃ R, R = atF l0 a1 := ⟨_, rfl⟩
  have HI := Aside0.mk (index_calls A0 c0 l0 a1 w.heap.size _ HKB.out HR.out)
  rw [← hR] at h' HI
  clear hR
  by_cases hlt : R < l0.length
  · rw [if_pos hlt] at h'
    obtain ⟨rfl, rfl⟩ := Prod.mk.inj h'
    rw [if_pos hlt] at HI
    have p1 : 0 ≤ (R : Int) := by omega
    have q1 : (R : Int) < (l0.length : Int) := by omega
    have d1 : decide ((R : Int) < 0) = false := decide_eq_false (by omega)
    clear hlt h'
    go_enter Try.func19, Try.ntmps19
    go_wp2_with (go_at_call 49; refine HI.out.mono ?_; rintro e w2 ⟨rfl, hb⟩; have HB2 := Aside0.mk (below_step HA.out hb); clear hb HI; obtain ⟨ad, e1, hx0, hx1⟩ := at_T75 (Kd.C_below HRW.out HB2.out) (R : Int) p1 q1; cases e1; simp only [Int.toNat_natCast] at hx0 hx1)
    go_ret2
    exact ⟨rfl, HB2.out⟩
  · rw [if_neg hlt] at h'
    obtain ⟨rfl, rfl⟩ := Prod.mk.inj h'
    rw [if_neg hlt] at HI
    clear hlt h'
    go_enter Try.func19, Try.ntmps19
    go_wp2_with (go_at_call 49; refine HI.out.mono ?_; rintro e w2 ⟨rfl, hb⟩; have HB2 := Aside0.mk (below_step HA.out hb); clear hb HI)
    go_ret2
    exact ⟨rfl, HB2.out⟩
end Go.Proofs.Ytggngbbkachpaaa.Given
