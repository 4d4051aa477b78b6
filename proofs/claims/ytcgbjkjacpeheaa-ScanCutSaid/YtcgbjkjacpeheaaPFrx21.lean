-- Laid by a program of this session (wip/mkprint.py); checked by Lean alone
import Derived.Test.YtcgbjkjacpeheaaPFrx0
import Derived.Test.YtcgbjkjacpeheaaPFrx10
import Derived.Test.YtcgbjkjacpeheaaPFrx18
import Derived.Test.YtcgbjkjacpeheaaPFrx19
import Derived.Test.YtcgbjkjacpeheaaScan20
import Derived.Test.YtcgbjkjacpeheaaScanWrite
namespace Go.Proofs.Ytcgbjkjacpeheaa.Given
end Go.Proofs.Ytcgbjkjacpeheaa.Given
namespace Go.Proofs.Ytcgbjkjacpeheaa.PFr
open Go.Proofs.Ytcgbjkjacpeheaa.Given
open Go.RowKit Go.Proofs.YtcgbjkjacpeheaaW.PrintWords Go.Proofs.YtcgbjkjacpeheaaW.PrintLast Go.Proofs.YtcgbjkjacpeheaaW.PrintMore
attribute [local go_sem] max2_int min2_int max_two min_two max_three min_three max_four min_four   -- for this text's walks alone
set_option linter.unusedVariables false
set_option linter.unusedSimpArgs false

attribute [local go_sem] isSome_setCell_
/-! ### sheetpilelaw20_ScanCut: function 11 -/
mutual
def sheetpilelaw20_ScanCut.j0 : Nat → Int → List (List (S62)) → Int → Bool → Option (Bool)
  | 0, _, _, _, _ => none
  | k + 1, x0, x1, x2, x23 => if x23 = true then ((sheetpilelaw20_live.f).bind fun t416 => (some t416)) else ((scan_Write.f x0 x1).bind fun bt417 => (if bt417.2 = 0 then (if x2 < 0 then (sheetpilelaw20_ScanCut.j1 k x0 x1 x2 bt417.1 true) else (sheetpilelaw20_ScanCut.j1 k x0 x1 x2 bt417.1 (decide (x2 > (bt417.1.size : Int))))) else (sheetpilelaw20_ScanCut.j1 k x0 x1 x2 bt417.1 true)))
def sheetpilelaw20_ScanCut.j1 : Nat → Int → List (List (S62)) → Int → ByteArray → Bool → Option (Bool)
  | 0, _, _, _, _, _ => none
  | k + 1, x0, x1, x2, x7, x42 => if x42 = true then ((sheetpilelaw20_live.f).bind fun t419 => (some t419)) else (if 0 ≤ x2 then (if x2 ≤ (x7.size : Int) then ((scan_All.f (x7.extract 0 (x2 : Int).toNat)).bind fun bt420 => (sheetpilelaw20_ScanCut.l0 k x0 x1 x2 bt420.1 bt420.2 0 0 0)) else (none)) else (none))
def sheetpilelaw20_ScanCut.j3 : Nat → Int → List (List (S62)) → List (S30) → Int → Int → Int → Option (Bool)
  | 0, _, _, _, _, _, _ => none
  | k + 1, x0, x1, x9, x10, x11, x12 => if (x9.length : Int) = x12 then (sheetpilelaw20_ScanCut.j4 k x0 x1 x9 x12 (x10 != x11)) else (sheetpilelaw20_ScanCut.j4 k x0 x1 x9 x12 true)
def sheetpilelaw20_ScanCut.j4 : Nat → Int → List (List (S62)) → List (S30) → Int → Bool → Option (Bool)
  | 0, _, _, _, _, _ => none
  | k + 1, x0, x1, x9, x12, x89 => if x89 = true then (some false) else (sheetpilelaw20_ScanCut.l1 k x0 x1 x9 x12 0)
def sheetpilelaw20_ScanCut.l1 : Nat → Int → List (List (S62)) → List (S30) → Int → Int → Option (Bool)
  | 0, _, _, _, _, _ => none
  | k + 1, x0, x1, x9, x12, x16 => if x16 < x12 then (if 0 ≤ x16 then (if x16 < (x9.length : Int) then (if ((rd_T30 x9 x16).f0) = (wrap64 (x0 + x16)) then (if x16 < (x1.length : Int) then ((sheetpileref19_Changes.f k ((rd_T30 x9 x16).f1) (rd_L6 x1 x16)).bind fun t433 => (if t433 = true then (sheetpilelaw20_ScanCut.l1 k x0 x1 x9 x12 (wrap64 (x16 + 1))) else (some false))) else (none)) else (some false)) else (none)) else (none)) else ((sheetpilelaw20_live.f).bind fun t434 => (some t434))
def sheetpilelaw20_ScanCut.l0 : Nat → Int → List (List (S62)) → Int → List (S30) → Int → Int → Int → Int → Option (Bool)
  | 0, _, _, _, _, _, _, _, _ => none
  | k + 1, x0, x1, x2, x9, x10, x11, x12, x13 => if x13 < (x1.length : Int) then (if 0 ≤ x13 then (if x13 ≤ (wrap64 (x13 + 1)) then (if (wrap64 (x13 + 1)) ≤ (x1.length : Int) then ((scan_Write.f (wrap64 (x0 + x13)) ((x1.take ((wrap64 (x13 + 1)) : Int).toNat).drop (x13 : Int).toNat)).bind fun bt428 => (if (wrap64 (x11 + (bt428.1.size : Int))) > x2 then (sheetpilelaw20_ScanCut.j3 k x0 x1 x9 x10 x11 x12) else (sheetpilelaw20_ScanCut.l0 k x0 x1 x2 x9 x10 (wrap64 (x11 + (bt428.1.size : Int))) (wrap64 (x12 + 1)) (wrap64 (x13 + 1))))) else (none)) else (none)) else (none)) else (sheetpilelaw20_ScanCut.j3 k x0 x1 x9 x10 x11 x12)
end
def sheetpilelaw20_ScanCut.f (k : Nat) (a0 : Int) (l1 : List (List (S62))) (a2 : Int) : Option (Bool) := (sheetpileref20_Few.f k l1).bind fun t415 => (if t415 = true then (sheetpilelaw20_ScanCut.j0 k a0 l1 a2 (decide (a0 > 1152921504606846976))) else (sheetpilelaw20_ScanCut.j0 k a0 l1 a2 true))
theorem sheetpilelaw20_ScanCut.mono_l : ∀ k, (∀ y0 y1 y2 y3, LeO (sheetpilelaw20_ScanCut.j0 k y0 y1 y2 y3) (sheetpilelaw20_ScanCut.j0 (k + 1) y0 y1 y2 y3)) ∧ (∀ y0 y1 y2 y3 y4, LeO (sheetpilelaw20_ScanCut.j1 k y0 y1 y2 y3 y4) (sheetpilelaw20_ScanCut.j1 (k + 1) y0 y1 y2 y3 y4)) ∧ (∀ y0 y1 y2 y3 y4 y5, LeO (sheetpilelaw20_ScanCut.j3 k y0 y1 y2 y3 y4 y5) (sheetpilelaw20_ScanCut.j3 (k + 1) y0 y1 y2 y3 y4 y5)) ∧ (∀ y0 y1 y2 y3 y4, LeO (sheetpilelaw20_ScanCut.j4 k y0 y1 y2 y3 y4) (sheetpilelaw20_ScanCut.j4 (k + 1) y0 y1 y2 y3 y4)) ∧ (∀ y0 y1 y2 y3 y4, LeO (sheetpilelaw20_ScanCut.l1 k y0 y1 y2 y3 y4) (sheetpilelaw20_ScanCut.l1 (k + 1) y0 y1 y2 y3 y4)) ∧ (∀ y0 y1 y2 y3 y4 y5 y6 y7, LeO (sheetpilelaw20_ScanCut.l0 k y0 y1 y2 y3 y4 y5 y6 y7) (sheetpilelaw20_ScanCut.l0 (k + 1) y0 y1 y2 y3 y4 y5 y6 y7))
  | 0 => ⟨fun _ _ _ _ r h => by simp [sheetpilelaw20_ScanCut.j0] at h, fun _ _ _ _ _ r h => by simp [sheetpilelaw20_ScanCut.j1] at h, fun _ _ _ _ _ _ r h => by simp [sheetpilelaw20_ScanCut.j3] at h, fun _ _ _ _ _ r h => by simp [sheetpilelaw20_ScanCut.j4] at h, fun _ _ _ _ _ r h => by simp [sheetpilelaw20_ScanCut.l1] at h, fun _ _ _ _ _ _ _ _ r h => by simp [sheetpilelaw20_ScanCut.l0] at h⟩
  | k + 1 => by
    obtain ⟨ih0, ih1, ih2, ih3, ih4, ih5⟩ := sheetpilelaw20_ScanCut.mono_l k
    refine ⟨?_, ?_, ?_, ?_, ?_, ?_⟩
    · intro y0 y1 y2 y3
      unfold sheetpilelaw20_ScanCut.j0
      repeat' first
      | (with_reducible exact ih0 _ _ _ _)
      | (with_reducible exact ih1 _ _ _ _ _)
      | (with_reducible exact ih2 _ _ _ _ _ _)
      | (with_reducible exact ih3 _ _ _ _ _)
      | (with_reducible exact ih4 _ _ _ _ _)
      | (with_reducible exact ih5 _ _ _ _ _ _ _ _)
      | (with_reducible exact sheetpileref19_Changes.mono _ _ _)
      | (with_reducible exact sheetpileref20_Few.mono _ _)
      | (with_reducible exact LeO.refl _)
      | (with_reducible exact LeO.none _)
      | (with_reducible refine LeO.ite ?_ ?_)
      | (with_reducible refine LeO.bind ?_ (fun _ => ?_))
      | exact ih0 _ _ _ _
      | exact ih1 _ _ _ _ _
      | exact ih2 _ _ _ _ _ _
      | exact ih3 _ _ _ _ _
      | exact ih4 _ _ _ _ _
      | exact ih5 _ _ _ _ _ _ _ _
      | exact sheetpileref19_Changes.mono _ _ _
      | exact sheetpileref20_Few.mono _ _
      | exact LeO.none _
      | refine LeO.ite ?_ ?_
      | refine LeO.bind ?_ (fun _ => ?_)
    · intro y0 y1 y2 y3 y4
      unfold sheetpilelaw20_ScanCut.j1
      repeat' first
      | (with_reducible exact ih0 _ _ _ _)
      | (with_reducible exact ih1 _ _ _ _ _)
      | (with_reducible exact ih2 _ _ _ _ _ _)
      | (with_reducible exact ih3 _ _ _ _ _)
      | (with_reducible exact ih4 _ _ _ _ _)
      | (with_reducible exact ih5 _ _ _ _ _ _ _ _)
      | (with_reducible exact sheetpileref19_Changes.mono _ _ _)
      | (with_reducible exact sheetpileref20_Few.mono _ _)
      | (with_reducible exact LeO.refl _)
      | (with_reducible exact LeO.none _)
      | (with_reducible refine LeO.ite ?_ ?_)
      | (with_reducible refine LeO.bind ?_ (fun _ => ?_))
      | exact ih0 _ _ _ _
      | exact ih1 _ _ _ _ _
      | exact ih2 _ _ _ _ _ _
      | exact ih3 _ _ _ _ _
      | exact ih4 _ _ _ _ _
      | exact ih5 _ _ _ _ _ _ _ _
      | exact sheetpileref19_Changes.mono _ _ _
      | exact sheetpileref20_Few.mono _ _
      | exact LeO.none _
      | refine LeO.ite ?_ ?_
      | refine LeO.bind ?_ (fun _ => ?_)
    · intro y0 y1 y2 y3 y4 y5
      unfold sheetpilelaw20_ScanCut.j3
      repeat' first
      | (with_reducible exact ih0 _ _ _ _)
      | (with_reducible exact ih1 _ _ _ _ _)
      | (with_reducible exact ih2 _ _ _ _ _ _)
      | (with_reducible exact ih3 _ _ _ _ _)
      | (with_reducible exact ih4 _ _ _ _ _)
      | (with_reducible exact ih5 _ _ _ _ _ _ _ _)
      | (with_reducible exact sheetpileref19_Changes.mono _ _ _)
      | (with_reducible exact sheetpileref20_Few.mono _ _)
      | (with_reducible exact LeO.refl _)
      | (with_reducible exact LeO.none _)
      | (with_reducible refine LeO.ite ?_ ?_)
      | (with_reducible refine LeO.bind ?_ (fun _ => ?_))
      | exact ih0 _ _ _ _
      | exact ih1 _ _ _ _ _
      | exact ih2 _ _ _ _ _ _
      | exact ih3 _ _ _ _ _
      | exact ih4 _ _ _ _ _
      | exact ih5 _ _ _ _ _ _ _ _
      | exact sheetpileref19_Changes.mono _ _ _
      | exact sheetpileref20_Few.mono _ _
      | exact LeO.none _
      | refine LeO.ite ?_ ?_
      | refine LeO.bind ?_ (fun _ => ?_)
    · intro y0 y1 y2 y3 y4
      unfold sheetpilelaw20_ScanCut.j4
      repeat' first
      | (with_reducible exact ih0 _ _ _ _)
      | (with_reducible exact ih1 _ _ _ _ _)
      | (with_reducible exact ih2 _ _ _ _ _ _)
      | (with_reducible exact ih3 _ _ _ _ _)
      | (with_reducible exact ih4 _ _ _ _ _)
      | (with_reducible exact ih5 _ _ _ _ _ _ _ _)
      | (with_reducible exact sheetpileref19_Changes.mono _ _ _)
      | (with_reducible exact sheetpileref20_Few.mono _ _)
      | (with_reducible exact LeO.refl _)
      | (with_reducible exact LeO.none _)
      | (with_reducible refine LeO.ite ?_ ?_)
      | (with_reducible refine LeO.bind ?_ (fun _ => ?_))
      | exact ih0 _ _ _ _
      | exact ih1 _ _ _ _ _
      | exact ih2 _ _ _ _ _ _
      | exact ih3 _ _ _ _ _
      | exact ih4 _ _ _ _ _
      | exact ih5 _ _ _ _ _ _ _ _
      | exact sheetpileref19_Changes.mono _ _ _
      | exact sheetpileref20_Few.mono _ _
      | exact LeO.none _
      | refine LeO.ite ?_ ?_
      | refine LeO.bind ?_ (fun _ => ?_)
    · intro y0 y1 y2 y3 y4
      unfold sheetpilelaw20_ScanCut.l1
      repeat' first
      | (with_reducible exact ih0 _ _ _ _)
      | (with_reducible exact ih1 _ _ _ _ _)
      | (with_reducible exact ih2 _ _ _ _ _ _)
      | (with_reducible exact ih3 _ _ _ _ _)
      | (with_reducible exact ih4 _ _ _ _ _)
      | (with_reducible exact ih5 _ _ _ _ _ _ _ _)
      | (with_reducible exact sheetpileref19_Changes.mono _ _ _)
      | (with_reducible exact sheetpileref20_Few.mono _ _)
      | (with_reducible exact LeO.refl _)
      | (with_reducible exact LeO.none _)
      | (with_reducible refine LeO.ite ?_ ?_)
      | (with_reducible refine LeO.bind ?_ (fun _ => ?_))
      | exact ih0 _ _ _ _
      | exact ih1 _ _ _ _ _
      | exact ih2 _ _ _ _ _ _
      | exact ih3 _ _ _ _ _
      | exact ih4 _ _ _ _ _
      | exact ih5 _ _ _ _ _ _ _ _
      | exact sheetpileref19_Changes.mono _ _ _
      | exact sheetpileref20_Few.mono _ _
      | exact LeO.none _
      | refine LeO.ite ?_ ?_
      | refine LeO.bind ?_ (fun _ => ?_)
    · intro y0 y1 y2 y3 y4 y5 y6 y7
      unfold sheetpilelaw20_ScanCut.l0
      repeat' first
      | (with_reducible exact ih0 _ _ _ _)
      | (with_reducible exact ih1 _ _ _ _ _)
      | (with_reducible exact ih2 _ _ _ _ _ _)
      | (with_reducible exact ih3 _ _ _ _ _)
      | (with_reducible exact ih4 _ _ _ _ _)
      | (with_reducible exact ih5 _ _ _ _ _ _ _ _)
      | (with_reducible exact sheetpileref19_Changes.mono _ _ _)
      | (with_reducible exact sheetpileref20_Few.mono _ _)
      | (with_reducible exact LeO.refl _)
      | (with_reducible exact LeO.none _)
      | (with_reducible refine LeO.ite ?_ ?_)
      | (with_reducible refine LeO.bind ?_ (fun _ => ?_))
      | exact ih0 _ _ _ _
      | exact ih1 _ _ _ _ _
      | exact ih2 _ _ _ _ _ _
      | exact ih3 _ _ _ _ _
      | exact ih4 _ _ _ _ _
      | exact ih5 _ _ _ _ _ _ _ _
      | exact sheetpileref19_Changes.mono _ _ _
      | exact sheetpileref20_Few.mono _ _
      | exact LeO.none _
      | refine LeO.ite ?_ ?_
      | refine LeO.bind ?_ (fun _ => ?_)
theorem sheetpilelaw20_ScanCut.mono : ∀ a0 a1 a2 k, LeO (sheetpilelaw20_ScanCut.f k a0 a1 a2) (sheetpilelaw20_ScanCut.f (k + 1) a0 a1 a2) := by
  intro a0 a1 a2 k
  obtain ⟨ih0, ih1, ih2, ih3, ih4, ih5⟩ := sheetpilelaw20_ScanCut.mono_l k
  unfold sheetpilelaw20_ScanCut.f
  repeat' first
      | (with_reducible exact ih0 _ _ _ _)
      | (with_reducible exact ih1 _ _ _ _ _)
      | (with_reducible exact ih2 _ _ _ _ _ _)
      | (with_reducible exact ih3 _ _ _ _ _)
      | (with_reducible exact ih4 _ _ _ _ _)
      | (with_reducible exact ih5 _ _ _ _ _ _ _ _)
      | (with_reducible exact sheetpileref19_Changes.mono _ _ _)
      | (with_reducible exact sheetpileref20_Few.mono _ _)
      | (with_reducible exact LeO.refl _)
      | (with_reducible exact LeO.none _)
      | (with_reducible refine LeO.ite ?_ ?_)
      | (with_reducible refine LeO.bind ?_ (fun _ => ?_))
      | exact ih0 _ _ _ _
      | exact ih1 _ _ _ _ _
      | exact ih2 _ _ _ _ _ _
      | exact ih3 _ _ _ _ _
      | exact ih4 _ _ _ _ _
      | exact ih5 _ _ _ _ _ _ _ _
      | exact sheetpileref19_Changes.mono _ _ _
      | exact sheetpileref20_Few.mono _ _
      | exact LeO.none _
      | refine LeO.ite ?_ ?_
      | refine LeO.bind ?_ (fun _ => ?_)
set_option maxHeartbeats 8000000 in
set_option maxRecDepth 100000 in
theorem sheetpilelaw20_ScanCut.calls (k : Nat) (a0 : Int) (A1 : Option Addr) (c1 : Nat) (l1 : List (List (S62))) (a2 : Int) (r : Bool) (w : World) (hr1 : Kd.C (Kd.slice 62 k62) w A1 l1.length l1) (hc1 : l1.length ≤ c1) (h : sheetpilelaw20_ScanCut.f k a0 l1 a2 = some r) :
    Calls Try.prog 11 #[.int .i64 a0, .slice A1 l1.length c1, .int .i64 a2] w fun e w' => e = .returned (.bool r) ∧ Below w.heap.size w w' := by
  have HR1 := Aside0.mk hr1
  have HC1 := Aside0.mk hc1
  clear hr1 hc1
  have HB := Aside0.mk (Below.refl w.heap.size w)
  have H : ((sheetpileref20_Few.f k l1).bind fun t415 => (if t415 = true then (sheetpilelaw20_ScanCut.j0 k a0 l1 a2 (decide (a0 > 1152921504606846976))) else (sheetpilelaw20_ScanCut.j0 k a0 l1 a2 true))) = some r := h
  clear h
  have HC4 := Aside0.mk H
  clear H
  go_enter Try.func11, Try.ntmps11
  go_upto_region 1 with (fail)
  repeat (go_quiet (fail); go_upto_region 1 with (fail))
  go_cut [23] (fun v23 wc => ∃ (kq : Nat) (x23_3 : Bool), v23 = .bool x23_3 ∧ Aside0 (sheetpilelaw20_ScanCut.j0 kq a0 l1 a2 x23_3 = some r) ∧ Aside0 (kq ≤ k) ∧ Aside0 (Below w.heap.size w wc))
  case first =>
    have H := HC4.out
    clear HC4
    replace H := Option.bind_eq_some_iff.mp H
    obtain ⟨t415, A50, H⟩ := H
    replace H : (if t415 = true then (sheetpilelaw20_ScanCut.j0 k a0 l1 a2 (decide (a0 > 1152921504606846976))) else (sheetpilelaw20_ScanCut.j0 k a0 l1 a2 true)) = some r := H
    have A5 := Aside0.mk A50
    clear A50
    by_cases c6 : t415 = true
    · subst c6
      have H1 : (sheetpilelaw20_ScanCut.j0 k a0 l1 a2 (decide (a0 > 1152921504606846976))) = some r := by rw [if_pos rfl] at H; exact H
      clear H
      have H := H1
      clear H1
      have H' := Aside0.mk H
      clear H
      go_wp2_with ((go_at_call 30; (with_reducible refine (sheetpileref20_Few.calls k _ _ l1 true _ ?side1 ?side2 A5.out).mono ?_); (case side1 => repeat (first | exact (Kd.C_below HR1.out HB.out) | (with_reducible refine Kd.C_alloc ?_ _) | (with_reducible refine Kd.C_drewN ?_ _) | (with_reducible refine Kd.C_drew ?_))); (case side2 => exact HC1.out); rintro e w' ⟨rfl, ⟨nd, rfl⟩⟩; (try first | exact ⟨rfl, _, World.drewN_drewN _ _ _⟩ | exact ⟨rfl, _, Eq.trans (World.drewN_drewN _ _ _) (congrArg (World.drewN _) (Nat.add_assoc _ _ _))⟩)))
      repeat (go_quiet (fail); try go_wp2)
      go_meet
      case rel => exact ⟨_, (decide (a0 > 1152921504606846976)), (by first | rfl | (simp; done) | (simp [*]; done) | exact congrArg Value.bool (by cases ByteArray.toList a0 <;> rfl) | exact congrArg Value.bool (by cases ByteArray.toList a1 <;> rfl)), H', ⟨by first | omega | exact Nat.le_refl _⟩, ⟨by repeat (first | (with_reducible first | exact HB.out | apply below_alloc | apply pw_below_drewN | apply below_drew1) | exact HB.out)⟩⟩
    · replace c6 := Bool.eq_false_iff.mpr c6
      subst c6
      have H1 : (sheetpilelaw20_ScanCut.j0 k a0 l1 a2 true) = some r := by rw [if_neg (show ¬ (false = true) by decide)] at H; exact H
      clear H
      have H := H1
      clear H1
      have H' := Aside0.mk H
      clear H
      go_wp2_with ((go_at_call 30; (with_reducible refine (sheetpileref20_Few.calls k _ _ l1 false _ ?side1 ?side2 A5.out).mono ?_); (case side1 => repeat (first | exact (Kd.C_below HR1.out HB.out) | (with_reducible refine Kd.C_alloc ?_ _) | (with_reducible refine Kd.C_drewN ?_ _) | (with_reducible refine Kd.C_drew ?_))); (case side2 => exact HC1.out); rintro e w' ⟨rfl, ⟨nd, rfl⟩⟩; (try first | exact ⟨rfl, _, World.drewN_drewN _ _ _⟩ | exact ⟨rfl, _, Eq.trans (World.drewN_drewN _ _ _) (congrArg (World.drewN _) (Nat.add_assoc _ _ _))⟩)))
      repeat (go_quiet (fail); try go_wp2)
      go_meet
      case rel => exact ⟨_, (true), (by first | rfl | (simp; done) | (simp [*]; done) | exact congrArg Value.bool (by cases ByteArray.toList a0 <;> rfl) | exact congrArg Value.bool (by cases ByteArray.toList a1 <;> rfl)), H', ⟨by first | omega | exact Nat.le_refl _⟩, ⟨by repeat (first | (with_reducible first | exact HB.out | apply below_alloc | apply pw_below_drewN | apply below_drew1) | exact HB.out)⟩⟩
  case rest =>
    clear HC4
    try clear c1
    try clear p2
    try clear c6
    obtain ⟨kq, x23_3, rfl, HA, HJ3, HB⟩ := hcut
    cases kq with
    | zero => exact absurd HA.out (by simp [sheetpilelaw20_ScanCut.j0])
    | succ kj3 =>
      have H := HA.out
      clear HA
      simp only [sheetpilelaw20_ScanCut.j0] at H
      by_cases c7 : x23_3 = true
      · subst c7
        have H1 : ((sheetpilelaw20_live.f).bind fun t416 => (some t416)) = some r := by rw [if_pos rfl] at H; exact H
        clear H
        have H := H1
        clear H1
        replace H := Option.bind_eq_some_iff.mp H
        obtain ⟨t416, A80, H⟩ := H
        replace H : (some t416) = some r := H
        have A8 := Aside0.mk A80
        clear A80
        obtain rfl := Option.some.inj H
        go_wp2_with ((go_at_call 25; (with_reducible refine (sheetpilelaw20_live.calls  t416 _ A8.out).mono ?_); rintro e w9 ⟨rfl, hb⟩; have n0_ := Aside0.mk (below_step (by repeat (first | (with_reducible first | exact HB.out | apply below_alloc | apply pw_below_drewN | apply below_drew1) | exact HB.out)) hb); clear HB; have HB := n0_; clear n0_; (try clear hb); (try clear hb2); (try clear hk); (try clear hi)))
        repeat (go_quiet (fail); try go_wp2)
        go_ret
        exact ⟨by first | rfl | (simp [errW_none, errW_some] <;> rfl) | (simp [*, errW_none, errW_some] <;> rfl), by repeat (first | (with_reducible first | exact HB.out | apply below_alloc | apply pw_below_drewN | apply below_drew1) | exact HB.out)⟩
      · replace c7 := Bool.eq_false_iff.mpr c7
        subst c7
        have H1 : ((scan_Write.f a0 l1).bind fun bt417 => (if bt417.2 = 0 then (if a2 < 0 then (sheetpilelaw20_ScanCut.j1 kj3 a0 l1 a2 bt417.1 true) else (sheetpilelaw20_ScanCut.j1 kj3 a0 l1 a2 bt417.1 (decide (a2 > (bt417.1.size : Int))))) else (sheetpilelaw20_ScanCut.j1 kj3 a0 l1 a2 bt417.1 true))) = some r := by rw [if_neg (show ¬ (false = true) by decide)] at H; exact H
        clear H
        have H := H1
        clear H1
        replace H := Option.bind_eq_some_iff.mp H
        obtain ⟨⟨t417, t418⟩, A100, H⟩ := H
        replace H : (if t418 = 0 then (if a2 < 0 then (sheetpilelaw20_ScanCut.j1 kj3 a0 l1 a2 t417 true) else (sheetpilelaw20_ScanCut.j1 kj3 a0 l1 a2 t417 (decide (a2 > (t417.size : Int))))) else (sheetpilelaw20_ScanCut.j1 kj3 a0 l1 a2 t417 true)) = some r := H
        have A10 := Aside0.mk A100
        clear A100
        have HC11 := Aside0.mk H
        clear H
        go_upto_region 4 with (first | (go_at_call 31; (with_reducible refine (scan_Write.calls a0 _ _ l1 t417 t418 _ ?side1 ?side2 A10.out).mono ?_); (case side1 => repeat (first | exact (Kd.C_below HR1.out HB.out) | (with_reducible refine Kd.C_alloc ?_ _) | (with_reducible refine Kd.C_drewN ?_ _) | (with_reducible refine Kd.C_drew ?_))); (case side2 => exact HC1.out); rintro e w12 ⟨rfl, hb⟩; have n0_ := Aside0.mk (below_step (by repeat (first | (with_reducible first | exact HB.out | apply below_alloc | apply pw_below_drewN | apply below_drew1) | exact HB.out)) hb); clear HB; have HB := n0_; clear n0_; (try clear hb); (try clear hb2); (try clear hk); (try clear hi)))
        repeat (go_quiet (fail); go_upto_region 4 with (first | (go_at_call 31; (with_reducible refine (scan_Write.calls a0 _ _ l1 t417 t418 _ ?side1 ?side2 A10.out).mono ?_); (case side1 => repeat (first | exact (Kd.C_below HR1.out HB.out) | (with_reducible refine Kd.C_alloc ?_ _) | (with_reducible refine Kd.C_drewN ?_ _) | (with_reducible refine Kd.C_drew ?_))); (case side2 => exact HC1.out); rintro e w12 ⟨rfl, hb⟩; have n0_ := Aside0.mk (below_step (by repeat (first | (with_reducible first | exact HB.out | apply below_alloc | apply pw_below_drewN | apply below_drew1) | exact HB.out)) hb); clear HB; have HB := n0_; clear n0_; (try clear hb); (try clear hb2); (try clear hk); (try clear hi))))
        (try simp only [Act.put, List.setIfInBounds_toArray, List.set_cons_zero, List.set_cons_succ])
        go_cut [42] (fun v42 wc => ∃ (kq : Nat) (x42_10 : Bool), v42 = .bool x42_10 ∧ Aside0 (sheetpilelaw20_ScanCut.j1 kq a0 l1 a2 t417 x42_10 = some r) ∧ Aside0 (kq ≤ kj3) ∧ Aside0 (Below w.heap.size w wc))
        case first =>
          have H := HC11.out
          clear HC11
          by_cases c13 : t418 = 0
          · rw [if_pos c13] at H
            have c13b0 : (t418 == 0) = true := beq_iff_eq.mpr c13
            have c13b1 : (t418 != 0) = false := bne_eq_false_iff_eq.mpr c13
            clear c13
            (first | rw [c13b0] | (simp only [i64_w, i32_w]; rw [c13b0]) | skip)
            by_cases c14 : a2 < 0
            · rw [if_pos c14] at H
              have c14b0 : decide (a2 < 0) = true := decide_eq_true c14
              clear c14
              have H' := Aside0.mk H
              clear H
              go_wp2
              repeat (go_quiet (fail); try go_wp2)
              go_meet
              case rel => exact ⟨_, (true), (by first | rfl | (simp; done) | (simp [*]; done) | exact congrArg Value.bool (by cases ByteArray.toList a0 <;> rfl) | exact congrArg Value.bool (by cases ByteArray.toList a1 <;> rfl)), H', ⟨by have := HJ3.out; first | omega | exact Nat.le_refl _⟩, ⟨by repeat (first | (with_reducible first | exact HB.out | apply below_alloc | apply pw_below_drewN | apply below_drew1) | exact HB.out)⟩⟩
            · rw [if_neg c14] at H
              have c14b0 : decide (a2 < 0) = false := decide_eq_false c14
              clear c14
              have H' := Aside0.mk H
              clear H
              go_wp2
              repeat (go_quiet (fail); try go_wp2)
              go_meet
              case rel => exact ⟨_, (decide (a2 > (t417.size : Int))), (by first | rfl | (simp; done) | (simp [*]; done) | exact congrArg Value.bool (by cases ByteArray.toList a0 <;> rfl) | exact congrArg Value.bool (by cases ByteArray.toList a1 <;> rfl)), H', ⟨by have := HJ3.out; first | omega | exact Nat.le_refl _⟩, ⟨by repeat (first | (with_reducible first | exact HB.out | apply below_alloc | apply pw_below_drewN | apply below_drew1) | exact HB.out)⟩⟩
          · rw [if_neg c13] at H
            have c13b0 : (t418 == 0) = false := beq_eq_false_iff_ne.mpr c13
            have c13b1 : (t418 != 0) = true := bne_iff_ne.mpr c13
            (first | rw [c13b0] | (simp only [i64_w, i32_w]; rw [c13b0]) | skip)
            have H' := Aside0.mk H
            clear H
            go_wp2
            repeat (go_quiet (fail); try go_wp2)
            go_meet
            case rel => exact ⟨_, (true), (by first | rfl | (simp; done) | (simp [*]; done) | exact congrArg Value.bool (by cases ByteArray.toList a0 <;> rfl) | exact congrArg Value.bool (by cases ByteArray.toList a1 <;> rfl)), H', ⟨by have := HJ3.out; first | omega | exact Nat.le_refl _⟩, ⟨by repeat (first | (with_reducible first | exact HB.out | apply below_alloc | apply pw_below_drewN | apply below_drew1) | exact HB.out)⟩⟩
        case rest =>
          clear HC11
          try clear c1
          try clear p2
          try clear c6
          try clear c7
          try clear c11
          try clear c13
          try clear c13b0
          try clear c13b1
          try clear c14
          try clear c14b0
          try clear p2
          obtain ⟨kq, x42_10, rfl, HA, HJ10, HB⟩ := hcut
          cases kq with
          | zero => exact absurd HA.out (by simp [sheetpilelaw20_ScanCut.j1])
          | succ kj10 =>
            have H := HA.out
            clear HA
            simp only [sheetpilelaw20_ScanCut.j1] at H
            by_cases c15 : x42_10 = true
            · subst c15
              have H1 : ((sheetpilelaw20_live.f).bind fun t419 => (some t419)) = some r := by rw [if_pos rfl] at H; exact H
              clear H
              have H := H1
              clear H1
              replace H := Option.bind_eq_some_iff.mp H
              obtain ⟨t419, A160, H⟩ := H
              replace H : (some t419) = some r := H
              have A16 := Aside0.mk A160
              clear A160
              obtain rfl := Option.some.inj H
              go_wp2_with ((go_at_call 25; (with_reducible refine (sheetpilelaw20_live.calls  t419 _ A16.out).mono ?_); rintro e w17 ⟨rfl, hb⟩; have n0_ := Aside0.mk (below_step (by repeat (first | (with_reducible first | exact HB.out | apply below_alloc | apply pw_below_drewN | apply below_drew1) | exact HB.out)) hb); clear HB; have HB := n0_; clear n0_; (try clear hb); (try clear hb2); (try clear hk); (try clear hi)))
              repeat (go_quiet (fail); try go_wp2)
              go_ret
              exact ⟨by first | rfl | (simp [errW_none, errW_some] <;> rfl) | (simp [*, errW_none, errW_some] <;> rfl), by repeat (first | (with_reducible first | exact HB.out | apply below_alloc | apply pw_below_drewN | apply below_drew1) | exact HB.out)⟩
            · replace c15 := Bool.eq_false_iff.mpr c15
              subst c15
              have H1 : (if 0 ≤ a2 then (if a2 ≤ (t417.size : Int) then ((scan_All.f (t417.extract 0 (a2 : Int).toNat)).bind fun bt420 => (sheetpilelaw20_ScanCut.l0 kj10 a0 l1 a2 bt420.1 bt420.2 0 0 0)) else (none)) else (none)) = some r := by rw [if_neg (show ¬ (false = true) by decide)] at H; exact H
              clear H
              have H := H1
              clear H1
              by_cases c18 : 0 ≤ a2
              · rw [if_pos c18] at H
                have c18b0 := eq_true c18
                have c18b1 : decide (0 ≤ a2) = true := decide_eq_true c18
                clear c18
                by_cases c19 : a2 ≤ (t417.size : Int)
                · rw [if_pos c19] at H
                  have c19b0 := eq_true c19
                  have c19b1 : decide (a2 ≤ (t417.size : Int)) = true := decide_eq_true c19
                  clear c19
                  replace H := Option.bind_eq_some_iff.mp H
                  obtain ⟨⟨t420, t421⟩, A200, H⟩ := H
                  replace H : (sheetpilelaw20_ScanCut.l0 kj10 a0 l1 a2 t420 t421 0 0 0) = some r := H
                  have A20 := Aside0.mk A200
                  clear A200
                  have HC21 := Aside0.mk H
                  clear H
                  go_upto_block 0 with (first | (go_at_call 26; (with_reducible refine (scan_All.calls (t417.extract 0 (a2 : Int).toNat) t420 t421 _ A20.out).mono ?_); rintro e w22 ⟨v422, rfl, ho0, hb⟩; have n0_ := Aside0.mk (Kd.S_lower ho0 (below_size (by repeat (first | (with_reducible first | exact HB.out | apply below_alloc | apply pw_below_drewN | apply below_drew1) | exact HB.out)))); have n1_ := Aside0.mk (below_step (by repeat (first | (with_reducible first | exact HB.out | apply below_alloc | apply pw_below_drewN | apply below_drew1) | exact HB.out)) hb); clear HB; have HO423 := n0_; have HB := n1_; clear n0_ n1_; (try clear hb); (try clear hb2); (try clear hk); (try clear hi); (try clear ho0)))
                  repeat (go_quiet (fail); go_upto_block 0 with (first | (go_at_call 26; (with_reducible refine (scan_All.calls (t417.extract 0 (a2 : Int).toNat) t420 t421 _ A20.out).mono ?_); rintro e w22 ⟨v422, rfl, ho0, hb⟩; have n0_ := Aside0.mk (Kd.S_lower ho0 (below_size (by repeat (first | (with_reducible first | exact HB.out | apply below_alloc | apply pw_below_drewN | apply below_drew1) | exact HB.out)))); have n1_ := Aside0.mk (below_step (by repeat (first | (with_reducible first | exact HB.out | apply below_alloc | apply pw_below_drewN | apply below_drew1) | exact HB.out)) hb); clear HB; have HO423 := n0_; have HB := n1_; clear n0_ n1_; (try clear hb); (try clear hb2); (try clear hk); (try clear hi); (try clear ho0))))
                  (try simp only [Act.put, List.setIfInBounds_toArray, List.set_cons_zero, List.set_cons_succ])
                  go_cut [11, 12] (fun v11 v12 wc => ∃ (kq : Nat) (x11_20 : Int) (x12_20 : Int), v11 = .int .i64 x11_20 ∧ v12 = .int .i64 x12_20 ∧ Aside0 (sheetpilelaw20_ScanCut.j3 kq a0 l1 t420 t421 x11_20 x12_20 = some r) ∧ Aside0 (kq ≤ kj10) ∧ Aside0 (Kd.S k30 30 wc w.heap.size (fun _ => True) v422 t420) ∧ Aside0 (Below w.heap.size w wc))
                  case first =>
                    have H := HC21.out
                    clear HC21
                    have H' := Aside0.mk H
                    clear H
                    go_wp2
                    repeat (go_quiet (fail); try go_wp2)
                    go_loopg [11, 12, 13] kj10 (fun kq v11 v12 v13 w' => ∃ (x11_3 : Int) (x12_3 : Int) (x13_3 : Int), v11 = .int .i64 x11_3 ∧ v12 = .int .i64 x12_3 ∧ v13 = .int .i64 x13_3 ∧ Aside0 (sheetpilelaw20_ScanCut.l0 kq a0 l1 a2 t420 t421 x11_3 x12_3 x13_3 = some r) ∧ Aside0 (kq ≤ kj10) ∧ Aside0 (Kd.S k30 30 w' w.heap.size (fun _ => True) v422 t420) ∧ Aside0 (Below w.heap.size w w'))
                    case atStart => exact ⟨(0), (0), (0), (by first | rfl | (simp; done) | (simp [*]; done) | exact congrArg Value.bool (by cases ByteArray.toList a0 <;> rfl) | exact congrArg Value.bool (by cases ByteArray.toList a1 <;> rfl)), (by first | rfl | (simp; done) | (simp [*]; done) | exact congrArg Value.bool (by cases ByteArray.toList a0 <;> rfl) | exact congrArg Value.bool (by cases ByteArray.toList a1 <;> rfl)), (by first | rfl | (simp; done) | (simp [*]; done) | exact congrArg Value.bool (by cases ByteArray.toList a0 <;> rfl) | exact congrArg Value.bool (by cases ByteArray.toList a1 <;> rfl)), H', ⟨Nat.le_refl _⟩, ⟨by (with_reducible repeat (first | apply Kd.S_alloc | apply Kd.S_drewN | apply Kd.S_drew)); exact HO423.out⟩, ⟨by repeat (first | (with_reducible first | exact HB.out | apply below_alloc | apply pw_below_drewN | apply below_drew1) | exact HB.out)⟩⟩
                    case round =>
                      clear H'
                      try clear c1
                      try clear p2
                      try clear c6
                      try clear c7
                      try clear c11
                      try clear c13
                      try clear c13b0
                      try clear c13b1
                      try clear c14
                      try clear c14b0
                      try clear c15
                      try clear c18
                      try clear c18b0
                      try clear c18b1
                      try clear c19
                      try clear c19b0
                      try clear c19b1
                      try clear p2
                      obtain ⟨x11_3, x12_3, x13_3, rfl, rfl, rfl, HA, HK3, HO_9, HB⟩ := hrel
                      cases gk with
                      | zero => exact absurd HA.out (by simp [sheetpilelaw20_ScanCut.l0])
                      | succ k3 =>
                        have H := HA.out
                        clear HA
                        simp only [sheetpilelaw20_ScanCut.l0] at H
                        by_cases c23 : x13_3 < (l1.length : Int)
                        · rw [if_pos c23] at H
                          have c23b0 : decide (x13_3 < (l1.length : Int)) = true := decide_eq_true c23
                          clear c23
                          (first | rw [c23b0] | (simp only [i64_w, i32_w]; rw [c23b0]) | skip)
                          by_cases c24 : 0 ≤ x13_3
                          · rw [if_pos c24] at H
                            have c24b0 := eq_true c24
                            have c24b1 : decide (0 ≤ x13_3) = true := decide_eq_true c24
                            clear c24
                            by_cases c25 : x13_3 ≤ (wrap64 (x13_3 + 1))
                            · rw [if_pos c25] at H
                              have c25b0 := eq_true c25
                              have c25b1 : decide (x13_3 ≤ (wrap64 (x13_3 + 1))) = true := decide_eq_true c25
                              by_cases c26 : (wrap64 (x13_3 + 1)) ≤ (l1.length : Int)
                              · rw [if_pos c26] at H
                                have c26b0 := eq_true c26
                                have c26b1 : decide ((wrap64 (x13_3 + 1)) ≤ (l1.length : Int)) = true := decide_eq_true c26
                                obtain ⟨y424, hy424⟩ : ∃ y_ : List (List (S62)), y_ = ((l1.take ((wrap64 (x13_3 + 1)) : Int).toNat).drop (x13_3 : Int).toNat) := ⟨_, rfl⟩
                                replace H : ((scan_Write.f (wrap64 (a0 + x13_3)) y424).bind fun bt428 => (if (wrap64 (x11_3 + (bt428.1.size : Int))) > a2 then (sheetpilelaw20_ScanCut.j3 k3 a0 l1 t420 t421 x11_3 x12_3) else (sheetpilelaw20_ScanCut.l0 k3 a0 l1 a2 t420 t421 (wrap64 (x11_3 + (bt428.1.size : Int))) (wrap64 (x12_3 + 1)) (wrap64 (x13_3 + 1))))) = some r := by first | (rw [hy424]; with_reducible exact H) | (have H2_ := (Option.bind_some _ _).symm.trans H; rw [hy424]; with_reducible exact H2_) | (have H2_ := (Option.bind_some _ _).symm.trans H; with_reducible exact H2_) | with_reducible exact H | (rw [hy424]; exact H) | exact H
                                have Ny424 := Aside0.mk hy424
                                clear hy424
                                replace H := Option.bind_eq_some_iff.mp H
                                obtain ⟨⟨t428, t429⟩, A270, H⟩ := H
                                replace H : (if (wrap64 (x11_3 + (t428.size : Int))) > a2 then (sheetpilelaw20_ScanCut.j3 k3 a0 l1 t420 t421 x11_3 x12_3) else (sheetpilelaw20_ScanCut.l0 k3 a0 l1 a2 t420 t421 (wrap64 (x11_3 + (t428.size : Int))) (wrap64 (x12_3 + 1)) (wrap64 (x13_3 + 1)))) = some r := H
                                have A27 := Aside0.mk A270
                                clear A270
                                by_cases c28 : (wrap64 (x11_3 + (t428.size : Int))) > a2
                                · rw [if_pos c28] at H
                                  have c28b0 : decide (a2 < (wrap64 (x11_3 + (t428.size : Int)))) = true := decide_eq_true c28
                                  clear c28
                                  have H' := Aside0.mk H
                                  clear H
                                  have q29 : ((wrap64 (x13_3 + 1)) : Int) ≤ ((l1.length : Int) : Int) := of_decide_eq_true (by first | (with_reducible assumption) | assumption)
                                  obtain ⟨i029, hi029, _, hsz29, _⟩ := info_parts info22
                                  have hroom29 : l1.length ≤ c1 := HC1.out
                                  have hC29 : Kd.C (Kd.slice 62 k62) _ A1 l1.length l1 := HR1.out
                                  have ql29 : (x13_3 : Int) ≤ ((wrap64 (x13_3 + 1)) : Int) := of_decide_eq_true (by first | (with_reducible assumption) | assumption)
                                  have q029 : (0 : Int) ≤ (x13_3 : Int) := of_decide_eq_true (by first | (with_reducible assumption) | assumption)
                                  have hcut29 := cut_mid (P := Try.prog) 55 22 .i64 .i64 Try.underlying55 hi029 1 hsz29 A1 l1.length c1 x13_3 (wrap64 (x13_3 + 1)) q029 ql29 q29 hroom29
                                  have hr29 := Kd.C_mid (lo := (x13_3 : Int).toNat) (hi := ((wrap64 (x13_3 + 1)) : Int).toNat) (c := c1) hC29 (by omega) (by omega) hroom29
                                  obtain ⟨A29, hA29⟩ : ∃ Ab_, Ab_ = (if c1 = (x13_3 : Int).toNat then A1 else (A1 : Option Addr).map (·.add ((x13_3 : Int).toNat * 1))) := ⟨_, rfl⟩
                                  obtain ⟨c29, hc29⟩ : ∃ cb_, cb_ = c1 - (x13_3 : Int).toNat := ⟨_, rfl⟩
                                  have hy29 : y424.length = ((wrap64 (x13_3 + 1)) : Int).toNat - (x13_3 : Int).toNat := (by rw [Ny424.out, List.length_drop, List.length_take] <;> omega)
                                  rw [show ((l1).take ((wrap64 (x13_3 + 1)) : Int).toNat).drop (x13_3 : Int).toNat = y424 from Ny424.out.symm] at hr29
                                  replace hr29 : Kd.C (Kd.slice 62 k62) _ A29 y424.length y424 := (by rw [hA29]; exact hr29)
                                  rw [← hy29, ← hA29, ← hc29] at hcut29
                                  have HR427 := Aside0.mk hr29
                                  have HC427 := Aside0.mk (show y424.length ≤ c29 from by rw [hy29, hc29]; exact Nat.sub_le_sub_right (Nat.le_trans (by omega) hroom29) _)
                                  clear hr29 hC29 hroom29 hi029 hsz29 hc29
                                  have KY29 := Aside0.mk hy29
                                  have KA29 := Aside0.mk hA29
                                  clear hy29 hA29
                                  replace q29 := eq_true q29
                                  go_wp2_with ((go_at_call 31; (with_reducible refine (scan_Write.calls (wrap64 (a0 + x13_3)) _ _ y424 t428 t429 _ ?side1 ?side2 A27.out).mono ?_); (case side1 => repeat (first | exact (Kd.C_below HR427.out HB.out) | (with_reducible refine Kd.C_alloc ?_ _) | (with_reducible refine Kd.C_drewN ?_ _) | (with_reducible refine Kd.C_drew ?_))); (case side2 => exact HC427.out); rintro e w30 ⟨rfl, hb⟩; have n0_ := Aside0.mk (Kd.S_below (by (with_reducible repeat (first | apply Kd.S_alloc | apply Kd.S_drewN | apply Kd.S_drew)); exact HO_9.out) hb); have n1_ := Aside0.mk (below_step (by repeat (first | (with_reducible first | exact HB.out | apply below_alloc | apply pw_below_drewN | apply below_drew1) | exact HB.out)) hb); clear HO_9; clear HB; have HO_9 := n0_; have HB := n1_; clear n0_ n1_; (try clear hb); (try clear hb2); (try clear hk); (try clear hi)))
                                  repeat (go_quiet (fail); try go_wp2)
                                  go_meet
                                  case rel => exact ⟨_, (x11_3), (x12_3), (by first | rfl | (simp; done) | (simp [*]; done) | exact congrArg Value.bool (by cases ByteArray.toList a0 <;> rfl) | exact congrArg Value.bool (by cases ByteArray.toList a1 <;> rfl)), (by first | rfl | (simp; done) | (simp [*]; done) | exact congrArg Value.bool (by cases ByteArray.toList a0 <;> rfl) | exact congrArg Value.bool (by cases ByteArray.toList a1 <;> rfl)), H', ⟨by have := HJ3.out; have := HJ10.out; have := HK3.out; first | omega | exact Nat.le_refl _⟩, ⟨by (with_reducible repeat (first | apply Kd.S_alloc | apply Kd.S_drewN | apply Kd.S_drew)); exact HO_9.out⟩, ⟨by repeat (first | (with_reducible first | exact HB.out | apply below_alloc | apply pw_below_drewN | apply below_drew1) | exact HB.out)⟩⟩
                                · rw [if_neg c28] at H
                                  have c28b0 : decide (a2 < (wrap64 (x11_3 + (t428.size : Int)))) = false := decide_eq_false c28
                                  clear c28
                                  have H' := Aside0.mk H
                                  clear H
                                  have q31 : ((wrap64 (x13_3 + 1)) : Int) ≤ ((l1.length : Int) : Int) := of_decide_eq_true (by first | (with_reducible assumption) | assumption)
                                  obtain ⟨i031, hi031, _, hsz31, _⟩ := info_parts info22
                                  have hroom31 : l1.length ≤ c1 := HC1.out
                                  have hC31 : Kd.C (Kd.slice 62 k62) _ A1 l1.length l1 := HR1.out
                                  have ql31 : (x13_3 : Int) ≤ ((wrap64 (x13_3 + 1)) : Int) := of_decide_eq_true (by first | (with_reducible assumption) | assumption)
                                  have q031 : (0 : Int) ≤ (x13_3 : Int) := of_decide_eq_true (by first | (with_reducible assumption) | assumption)
                                  have hcut31 := cut_mid (P := Try.prog) 55 22 .i64 .i64 Try.underlying55 hi031 1 hsz31 A1 l1.length c1 x13_3 (wrap64 (x13_3 + 1)) q031 ql31 q31 hroom31
                                  have hr31 := Kd.C_mid (lo := (x13_3 : Int).toNat) (hi := ((wrap64 (x13_3 + 1)) : Int).toNat) (c := c1) hC31 (by omega) (by omega) hroom31
                                  obtain ⟨A31, hA31⟩ : ∃ Ab_, Ab_ = (if c1 = (x13_3 : Int).toNat then A1 else (A1 : Option Addr).map (·.add ((x13_3 : Int).toNat * 1))) := ⟨_, rfl⟩
                                  obtain ⟨c31, hc31⟩ : ∃ cb_, cb_ = c1 - (x13_3 : Int).toNat := ⟨_, rfl⟩
                                  have hy31 : y424.length = ((wrap64 (x13_3 + 1)) : Int).toNat - (x13_3 : Int).toNat := (by rw [Ny424.out, List.length_drop, List.length_take] <;> omega)
                                  rw [show ((l1).take ((wrap64 (x13_3 + 1)) : Int).toNat).drop (x13_3 : Int).toNat = y424 from Ny424.out.symm] at hr31
                                  replace hr31 : Kd.C (Kd.slice 62 k62) _ A31 y424.length y424 := (by rw [hA31]; exact hr31)
                                  rw [← hy31, ← hA31, ← hc31] at hcut31
                                  have HR427 := Aside0.mk hr31
                                  have HC427 := Aside0.mk (show y424.length ≤ c31 from by rw [hy31, hc31]; exact Nat.sub_le_sub_right (Nat.le_trans (by omega) hroom31) _)
                                  clear hr31 hC31 hroom31 hi031 hsz31 hc31
                                  have KY31 := Aside0.mk hy31
                                  have KA31 := Aside0.mk hA31
                                  clear hy31 hA31
                                  replace q31 := eq_true q31
                                  go_wp2_with ((go_at_call 31; (with_reducible refine (scan_Write.calls (wrap64 (a0 + x13_3)) _ _ y424 t428 t429 _ ?side1 ?side2 A27.out).mono ?_); (case side1 => repeat (first | exact (Kd.C_below HR427.out HB.out) | (with_reducible refine Kd.C_alloc ?_ _) | (with_reducible refine Kd.C_drewN ?_ _) | (with_reducible refine Kd.C_drew ?_))); (case side2 => exact HC427.out); rintro e w32 ⟨rfl, hb⟩; have n0_ := Aside0.mk (Kd.S_below (by (with_reducible repeat (first | apply Kd.S_alloc | apply Kd.S_drewN | apply Kd.S_drew)); exact HO_9.out) hb); have n1_ := Aside0.mk (below_step (by repeat (first | (with_reducible first | exact HB.out | apply below_alloc | apply pw_below_drewN | apply below_drew1) | exact HB.out)) hb); clear HO_9; clear HB; have HO_9 := n0_; have HB := n1_; clear n0_ n1_; (try clear hb); (try clear hb2); (try clear hk); (try clear hi)))
                                  repeat (go_quiet (fail); try go_wp2)
                                  go_roundg k3
                                  case measure => have := HJ3.out; have := HJ10.out; have := HK3.out; omega
                                  case rel => exact ⟨(wrap64 (x11_3 + (t428.size : Int))), (wrap64 (x12_3 + 1)), (wrap64 (x13_3 + 1)), (by first | rfl | (simp; done) | (simp [*]; done) | exact congrArg Value.bool (by cases ByteArray.toList a0 <;> rfl) | exact congrArg Value.bool (by cases ByteArray.toList a1 <;> rfl)), (by first | rfl | (simp; done) | (simp [*]; done) | exact congrArg Value.bool (by cases ByteArray.toList a0 <;> rfl) | exact congrArg Value.bool (by cases ByteArray.toList a1 <;> rfl)), (by first | rfl | (simp; done) | (simp [*]; done) | exact congrArg Value.bool (by cases ByteArray.toList a0 <;> rfl) | exact congrArg Value.bool (by cases ByteArray.toList a1 <;> rfl)), H', ⟨by have := HJ3.out; have := HJ10.out; have := HK3.out; omega⟩, ⟨by (with_reducible repeat (first | apply Kd.S_alloc | apply Kd.S_drewN | apply Kd.S_drew)); exact HO_9.out⟩, ⟨by repeat (first | (with_reducible first | exact HB.out | apply below_alloc | apply pw_below_drewN | apply below_drew1) | exact HB.out)⟩⟩
                              · rw [if_neg c26] at H
                                exact absurd H (by simp)
                            · rw [if_neg c25] at H
                              exact absurd H (by simp)
                          · rw [if_neg c24] at H
                            exact absurd H (by simp)
                        · rw [if_neg c23] at H
                          have c23b0 : decide (x13_3 < (l1.length : Int)) = false := decide_eq_false c23
                          clear c23
                          (first | rw [c23b0] | (simp only [i64_w, i32_w]; rw [c23b0]) | skip)
                          have H' := Aside0.mk H
                          clear H
                          go_wp2
                          repeat (go_quiet (fail); try go_wp2)
                          go_meet
                          case rel => exact ⟨_, (x11_3), (x12_3), (by first | rfl | (simp; done) | (simp [*]; done) | exact congrArg Value.bool (by cases ByteArray.toList a0 <;> rfl) | exact congrArg Value.bool (by cases ByteArray.toList a1 <;> rfl)), (by first | rfl | (simp; done) | (simp [*]; done) | exact congrArg Value.bool (by cases ByteArray.toList a0 <;> rfl) | exact congrArg Value.bool (by cases ByteArray.toList a1 <;> rfl)), H', ⟨by have := HJ3.out; have := HJ10.out; have := HK3.out; first | omega | exact Nat.le_refl _⟩, ⟨by (with_reducible repeat (first | apply Kd.S_alloc | apply Kd.S_drewN | apply Kd.S_drew)); exact HO_9.out⟩, ⟨by repeat (first | (with_reducible first | exact HB.out | apply below_alloc | apply pw_below_drewN | apply below_drew1) | exact HB.out)⟩⟩
                  case rest =>
                    clear HC21
                    try clear c1
                    try clear c2
                    try clear p2
                    try clear q2
                    try clear c3
                    try clear q3
                    try clear c6
                    try clear p6
                    try clear c7
                    try clear c11
                    try clear c13
                    try clear c13b0
                    try clear c13b1
                    try clear c14
                    try clear c14b0
                    try clear c15
                    try clear c18
                    try clear c18b0
                    try clear c18b1
                    try clear c19
                    try clear c19b0
                    try clear c19b1
                    try clear c23
                    try clear c23b0
                    try clear c24
                    try clear c24b0
                    try clear c24b1
                    try clear c25
                    try clear c25b0
                    try clear c25b1
                    try clear c26
                    try clear c26b0
                    try clear c26b1
                    try clear c28
                    try clear c28b0
                    try clear c29
                    try clear q29
                    try clear c31
                    try clear q31
                    try clear p2
                    try clear q029
                    try clear q031
                    try clear q29
                    try clear q31
                    obtain ⟨kq, x11_20, x12_20, rfl, rfl, HA, HJ20, HO_9, HB⟩ := hcut
                    cases kq with
                    | zero => exact absurd HA.out (by simp [sheetpilelaw20_ScanCut.j3])
                    | succ kj20 =>
                      have H := HA.out
                      clear HA
                      simp only [sheetpilelaw20_ScanCut.j3] at H
                      have HC33 := Aside0.mk H
                      clear H
                      go_upto_region 16 with (fail)
                      repeat (go_quiet (fail); go_upto_region 16 with (fail))
                      go_cut [89] (fun v89 wc => ∃ (kq : Nat) (x89_32 : Bool), v89 = .bool x89_32 ∧ Aside0 (sheetpilelaw20_ScanCut.j4 kq a0 l1 t420 x12_20 x89_32 = some r) ∧ Aside0 (kq ≤ kj20) ∧ Aside0 (Kd.S k30 30 wc w.heap.size (fun _ => True) v422 t420) ∧ Aside0 (Below w.heap.size w wc))
                      case first =>
                        have H := HC33.out
                        clear HC33
                        by_cases c34 : (t420.length : Int) = x12_20
                        · rw [if_pos c34] at H
                          have c34b0 : ((t420.length : Int) == x12_20) = true := beq_iff_eq.mpr c34
                          have c34b1 : ((t420.length : Int) != x12_20) = false := bne_eq_false_iff_eq.mpr c34
                          clear c34
                          (first | rw [c34b0] | (simp only [i64_w, i32_w]; rw [c34b0]) | skip)
                          have H' := Aside0.mk H
                          clear H
                          obtain ⟨Ao35, co35, eo35⟩ := Kd.S_slice HO_9.out
                          subst eo35
                          go_wp2
                          repeat (go_quiet (fail); try go_wp2)
                          go_meet
                          case rel => exact ⟨_, ((t421 != x11_20)), (by first | rfl | (simp; done) | (simp [*]; done) | exact congrArg Value.bool (by cases ByteArray.toList a0 <;> rfl) | exact congrArg Value.bool (by cases ByteArray.toList a1 <;> rfl)), H', ⟨by have := HJ3.out; have := HJ10.out; have := HJ20.out; first | omega | exact Nat.le_refl _⟩, ⟨by (with_reducible repeat (first | apply Kd.S_alloc | apply Kd.S_drewN | apply Kd.S_drew)); exact HO_9.out⟩, ⟨by repeat (first | (with_reducible first | exact HB.out | apply below_alloc | apply pw_below_drewN | apply below_drew1) | exact HB.out)⟩⟩
                        · rw [if_neg c34] at H
                          have c34b0 : ((t420.length : Int) == x12_20) = false := beq_eq_false_iff_ne.mpr c34
                          have c34b1 : ((t420.length : Int) != x12_20) = true := bne_iff_ne.mpr c34
                          (first | rw [c34b0] | (simp only [i64_w, i32_w]; rw [c34b0]) | skip)
                          have H' := Aside0.mk H
                          clear H
                          obtain ⟨Ao36, co36, eo36⟩ := Kd.S_slice HO_9.out
                          subst eo36
                          go_wp2
                          repeat (go_quiet (fail); try go_wp2)
                          go_meet
                          case rel => exact ⟨_, (true), (by first | rfl | (simp; done) | (simp [*]; done) | exact congrArg Value.bool (by cases ByteArray.toList a0 <;> rfl) | exact congrArg Value.bool (by cases ByteArray.toList a1 <;> rfl)), H', ⟨by have := HJ3.out; have := HJ10.out; have := HJ20.out; first | omega | exact Nat.le_refl _⟩, ⟨by (with_reducible repeat (first | apply Kd.S_alloc | apply Kd.S_drewN | apply Kd.S_drew)); exact HO_9.out⟩, ⟨by repeat (first | (with_reducible first | exact HB.out | apply below_alloc | apply pw_below_drewN | apply below_drew1) | exact HB.out)⟩⟩
                      case rest =>
                        clear HC33
                        try clear c1
                        try clear c2
                        try clear p2
                        try clear q2
                        try clear c3
                        try clear q3
                        try clear c6
                        try clear p6
                        try clear c7
                        try clear c11
                        try clear c13
                        try clear c13b0
                        try clear c13b1
                        try clear c14
                        try clear c14b0
                        try clear c15
                        try clear c18
                        try clear c18b0
                        try clear c18b1
                        try clear c19
                        try clear c19b0
                        try clear c19b1
                        try clear c23
                        try clear c23b0
                        try clear c24
                        try clear c24b0
                        try clear c24b1
                        try clear c25
                        try clear c25b0
                        try clear c25b1
                        try clear c26
                        try clear c26b0
                        try clear c26b1
                        try clear c28
                        try clear c28b0
                        try clear c29
                        try clear q29
                        try clear c31
                        try clear q31
                        try clear c34
                        try clear c34b0
                        try clear c34b1
                        try clear p2
                        try clear p6
                        try clear q029
                        try clear q031
                        try clear q2
                        try clear q29
                        try clear q3
                        try clear q31
                        obtain ⟨kq, x89_32, rfl, HA, HJ32, HO_9, HB⟩ := hcut
                        cases kq with
                        | zero => exact absurd HA.out (by simp [sheetpilelaw20_ScanCut.j4])
                        | succ kj32 =>
                          have H := HA.out
                          clear HA
                          simp only [sheetpilelaw20_ScanCut.j4] at H
                          by_cases c37 : x89_32 = true
                          · subst c37
                            have H1 : (some false) = some r := by rw [if_pos rfl] at H; exact H
                            clear H
                            have H := H1
                            clear H1
                            obtain rfl := Option.some.inj H
                            go_wp2
                            repeat (go_quiet (fail); try go_wp2)
                            go_ret
                            exact ⟨by first | rfl | (simp [errW_none, errW_some] <;> rfl) | (simp [*, errW_none, errW_some] <;> rfl), by repeat (first | (with_reducible first | exact HB.out | apply below_alloc | apply pw_below_drewN | apply below_drew1) | exact HB.out)⟩
                          · replace c37 := Bool.eq_false_iff.mpr c37
                            subst c37
                            have H1 : (sheetpilelaw20_ScanCut.l1 kj32 a0 l1 t420 x12_20 0) = some r := by rw [if_neg (show ¬ (false = true) by decide)] at H; exact H
                            clear H
                            have H := H1
                            clear H1
                            have H' := Aside0.mk H
                            clear H
                            go_wp2
                            repeat (go_quiet (fail); try go_wp2)
                            go_loopg [16] kj32 (fun kq v16 w' => ∃ (x16_5 : Int), v16 = .int .i64 x16_5 ∧ Aside0 (sheetpilelaw20_ScanCut.l1 kq a0 l1 t420 x12_20 x16_5 = some r) ∧ Aside0 (kq ≤ kj32) ∧ Aside0 (Kd.S k30 30 w' w.heap.size (fun _ => True) v422 t420) ∧ Aside0 (Below w.heap.size w w'))
                            case atStart => exact ⟨(0), (by first | rfl | (simp; done) | (simp [*]; done) | exact congrArg Value.bool (by cases ByteArray.toList a0 <;> rfl) | exact congrArg Value.bool (by cases ByteArray.toList a1 <;> rfl)), H', ⟨Nat.le_refl _⟩, ⟨by (with_reducible repeat (first | apply Kd.S_alloc | apply Kd.S_drewN | apply Kd.S_drew)); exact HO_9.out⟩, ⟨by repeat (first | (with_reducible first | exact HB.out | apply below_alloc | apply pw_below_drewN | apply below_drew1) | exact HB.out)⟩⟩
                            case round =>
                              clear H'
                              try clear c1
                              try clear c2
                              try clear p2
                              try clear q2
                              try clear c3
                              try clear q3
                              try clear c6
                              try clear p6
                              try clear c7
                              try clear c11
                              try clear c13
                              try clear c13b0
                              try clear c13b1
                              try clear c14
                              try clear c14b0
                              try clear c15
                              try clear c18
                              try clear c18b0
                              try clear c18b1
                              try clear c19
                              try clear c19b0
                              try clear c19b1
                              try clear c23
                              try clear c23b0
                              try clear c24
                              try clear c24b0
                              try clear c24b1
                              try clear c25
                              try clear c25b0
                              try clear c25b1
                              try clear c26
                              try clear c26b0
                              try clear c26b1
                              try clear c28
                              try clear c28b0
                              try clear c29
                              try clear q29
                              try clear c31
                              try clear q31
                              try clear c34
                              try clear c34b0
                              try clear c34b1
                              try clear c37
                              try clear p2
                              try clear p6
                              try clear q029
                              try clear q031
                              try clear q2
                              try clear q29
                              try clear q3
                              try clear q31
                              obtain ⟨x16_5, rfl, HA, HK5, HO_9, HB⟩ := hrel
                              cases gk with
                              | zero => exact absurd HA.out (by simp [sheetpilelaw20_ScanCut.l1])
                              | succ k5 =>
                                have H := HA.out
                                clear HA
                                simp only [sheetpilelaw20_ScanCut.l1] at H
                                by_cases c38 : x16_5 < x12_20
                                · rw [if_pos c38] at H
                                  have c38b0 : decide (x16_5 < x12_20) = true := decide_eq_true c38
                                  clear c38
                                  by_cases c39 : 0 ≤ x16_5
                                  · rw [if_pos c39] at H
                                    have c39b0 : decide (0 ≤ x16_5) = true := decide_eq_true c39
                                    clear c39
                                    by_cases c40 : x16_5 < (t420.length : Int)
                                    · rw [if_pos c40] at H
                                      have c40b0 : decide (x16_5 < (t420.length : Int)) = true := decide_eq_true c40
                                      clear c40
                                      by_cases c41 : ((rd_T30 t420 x16_5).f0) = (wrap64 (a0 + x16_5))
                                      · rw [if_pos c41] at H
                                        have c41b0 : (((rd_T30 t420 x16_5).f0) == (wrap64 (a0 + x16_5))) = true := beq_iff_eq.mpr c41
                                        have c41b1 : (((rd_T30 t420 x16_5).f0) != (wrap64 (a0 + x16_5))) = false := bne_eq_false_iff_eq.mpr c41
                                        clear c41
                                        by_cases c42 : x16_5 < (l1.length : Int)
                                        · rw [if_pos c42] at H
                                          have c42b0 : decide (x16_5 < (l1.length : Int)) = true := decide_eq_true c42
                                          clear c42
                                          replace H := Option.bind_eq_some_iff.mp H
                                          obtain ⟨t433, A430, H⟩ := H
                                          replace H : (if t433 = true then (sheetpilelaw20_ScanCut.l1 k5 a0 l1 t420 x12_20 (wrap64 (x16_5 + 1))) else (some false)) = some r := H
                                          have A43 := Aside0.mk A430
                                          clear A430
                                          by_cases c44 : t433 = true
                                          · subst c44
                                            have H1 : (sheetpilelaw20_ScanCut.l1 k5 a0 l1 t420 x12_20 (wrap64 (x16_5 + 1))) = some r := by rw [if_pos rfl] at H; exact H
                                            clear H
                                            have H := H1
                                            clear H1
                                            have H' := Aside0.mk H
                                            clear H
                                            obtain ⟨Ao45, co45, eo45⟩ := Kd.S_slice HO_9.out
                                            subst eo45
                                            have p430 : 0 ≤ (x16_5 : Int) := of_decide_eq_true (by first | (with_reducible assumption) | assumption)
                                            have q430 : x16_5 < (t420.length : Int) := of_decide_eq_true (by first | (with_reducible assumption) | assumption)
                                            obtain ⟨ad430, A430_1, c430_1, e430, hx430_0, hx430_1, hl430_1, hi430_1⟩ := at_T30 (Kd.S_reads' HO_9.out).2.2 x16_5 p430 q430
                                            cases e430
                                            obtain ⟨ce430, hce430, hMe430, hcc430⟩ := Kd.S_get HO_9.out z30 x16_5 p430 (by first | exact q430 | exact of_decide_eq_true (by first | (with_reducible assumption) | assumption) | (have e_ := (Kd.S_reads' HO_9.out).1; omega))
                                            obtain ⟨ve430_1, rfl, ge430_1⟩ := k30_openM hMe430
                                            have hv430_1 := hcc430 1 _ rfl
                                            rw [add_field _ _ 1 (by omega)] at hv430_1
                                            replace hv430_1 := Option.some.inj (hv430_1.symm.trans hx430_1)
                                            rw [hv430_1] at ge430_1
                                            have HL430_1 := Aside0.mk (show Kd.R k62 62 _ _ _ _ ((rd_T30 t420 x16_5).f1) from ge430_1)
                                            clear hv430_1 ge430_1
                                            clear hcc430 hce430
                                            have HR430_1 := Aside0.mk hi430_1
                                            have HC430_1 := Aside0.mk hl430_1
                                            clear hi430_1 hl430_1
                                            replace p430 := eq_true p430
                                            replace q430 := eq_true q430
                                            have p431 : 0 ≤ (x16_5 : Int) := of_decide_eq_true (by first | (with_reducible assumption) | assumption)
                                            have q431 : x16_5 < (t420.length : Int) := of_decide_eq_true (by first | (with_reducible assumption) | assumption)
                                            obtain ⟨ad431, A431_1, c431_1, e431, hx431_0, hx431_1, hl431_1, hi431_1⟩ := at_T30 (Kd.S_reads' HO_9.out).2.2 x16_5 p431 q431
                                            obtain rfl : ad430 = ad431 := (by injection e431)
                                            obtain ⟨ce431, hce431, hMe431, hcc431⟩ := Kd.S_get HO_9.out z30 x16_5 p431 (by first | exact q431 | exact of_decide_eq_true (by first | (with_reducible assumption) | assumption) | (have e_ := (Kd.S_reads' HO_9.out).1; omega))
                                            obtain ⟨ve431_1, rfl, ge431_1⟩ := k30_openM hMe431
                                            have hv431_1 := hcc431 1 _ rfl
                                            rw [add_field _ _ 1 (by omega)] at hv431_1
                                            replace hv431_1 := Option.some.inj (hv431_1.symm.trans hx431_1)
                                            rw [hv431_1] at ge431_1
                                            have HL431_1 := Aside0.mk (show Kd.R k62 62 _ _ _ _ ((rd_T30 t420 x16_5).f1) from ge431_1)
                                            clear hv431_1 ge431_1
                                            clear hcc431 hce431
                                            have HR431_1 := Aside0.mk hi431_1
                                            have HC431_1 := Aside0.mk hl431_1
                                            clear hi431_1 hl431_1
                                            replace p431 := eq_true p431
                                            replace q431 := eq_true q431
                                            have ea_ := Option.some.inj (hx430_1.symm.trans hx431_1)
                                            injection ea_ with ea_ en_ ec_
                                            subst ea_
                                            subst ec_
                                            clear en_
                                            have p432 : 0 ≤ (x16_5 : Int) := of_decide_eq_true (by first | (with_reducible assumption) | assumption)
                                            have q432 : x16_5 < (l1.length : Int) := of_decide_eq_true (by first | (with_reducible assumption) | assumption)
                                            obtain ⟨ad432, A432_0, c432_0, e432, hx432_0, hl432_0, hi432_0⟩ := at_L6 HR1.out x16_5 p432 q432
                                            cases e432
                                            replace hx432_0 := (HB.out.cell (World.block_lt_of_cell? w _ hx432_0)).trans hx432_0
                                            have HR432_0 := Aside0.mk hi432_0
                                            have HC432_0 := Aside0.mk hl432_0
                                            clear hi432_0 hl432_0
                                            replace p432 := eq_true p432
                                            replace q432 := eq_true q432
                                            go_wp2
                                            repeat (go_quiet ((go_at_call 24; (with_reducible refine (sheetpileref19_Changes.calls k5 _ _ ((rd_T30 t420 x16_5).f1) _ _ (rd_L6 l1 x16_5) true _ ?side1 ?side2 ?side3 ?side4 A43.out).mono ?_); (case side1 => repeat (first | exact (by repeat (first | (with_reducible exact HR431_1.out) | (with_reducible refine Kd.C_alloc ?_ _) | (with_reducible refine Kd.C_drewN ?_ _) | (with_reducible refine Kd.C_drew ?_) | exact HR431_1.out)) | (with_reducible refine Kd.C_alloc ?_ _) | (with_reducible refine Kd.C_drewN ?_ _) | (with_reducible refine Kd.C_drew ?_))); (case side2 => exact HC431_1.out); (case side3 => repeat (first | exact (Kd.C_below HR432_0.out HB.out) | (with_reducible refine Kd.C_alloc ?_ _) | (with_reducible refine Kd.C_drewN ?_ _) | (with_reducible refine Kd.C_drew ?_))); (case side4 => exact HC432_0.out); rintro e w' ⟨rfl, ⟨nd, rfl⟩⟩; (try first | exact ⟨rfl, _, World.drewN_drewN _ _ _⟩ | exact ⟨rfl, _, Eq.trans (World.drewN_drewN _ _ _) (congrArg (World.drewN _) (Nat.add_assoc _ _ _))⟩))); try go_wp2)
                                            go_roundg k5
                                            case measure => have := HJ3.out; have := HJ10.out; have := HJ20.out; have := HJ32.out; have := HK5.out; omega
                                            case rel => exact ⟨(wrap64 (x16_5 + 1)), (by first | rfl | (simp; done) | (simp [*]; done) | exact congrArg Value.bool (by cases ByteArray.toList a0 <;> rfl) | exact congrArg Value.bool (by cases ByteArray.toList a1 <;> rfl)), H', ⟨by have := HJ3.out; have := HJ10.out; have := HJ20.out; have := HJ32.out; have := HK5.out; omega⟩, ⟨by (with_reducible repeat (first | apply Kd.S_alloc | apply Kd.S_drewN | apply Kd.S_drew)); exact HO_9.out⟩, ⟨by repeat (first | (with_reducible first | exact HB.out | apply below_alloc | apply pw_below_drewN | apply below_drew1) | exact HB.out)⟩⟩
                                          · replace c44 := Bool.eq_false_iff.mpr c44
                                            subst c44
                                            have H1 : (some false) = some r := by rw [if_neg (show ¬ (false = true) by decide)] at H; exact H
                                            clear H
                                            have H := H1
                                            clear H1
                                            obtain rfl := Option.some.inj H
                                            obtain ⟨Ao46, co46, eo46⟩ := Kd.S_slice HO_9.out
                                            subst eo46
                                            have p430 : 0 ≤ (x16_5 : Int) := of_decide_eq_true (by first | (with_reducible assumption) | assumption)
                                            have q430 : x16_5 < (t420.length : Int) := of_decide_eq_true (by first | (with_reducible assumption) | assumption)
                                            obtain ⟨ad430, A430_1, c430_1, e430, hx430_0, hx430_1, hl430_1, hi430_1⟩ := at_T30 (Kd.S_reads' HO_9.out).2.2 x16_5 p430 q430
                                            cases e430
                                            obtain ⟨ce430, hce430, hMe430, hcc430⟩ := Kd.S_get HO_9.out z30 x16_5 p430 (by first | exact q430 | exact of_decide_eq_true (by first | (with_reducible assumption) | assumption) | (have e_ := (Kd.S_reads' HO_9.out).1; omega))
                                            obtain ⟨ve430_1, rfl, ge430_1⟩ := k30_openM hMe430
                                            have hv430_1 := hcc430 1 _ rfl
                                            rw [add_field _ _ 1 (by omega)] at hv430_1
                                            replace hv430_1 := Option.some.inj (hv430_1.symm.trans hx430_1)
                                            rw [hv430_1] at ge430_1
                                            have HL430_1 := Aside0.mk (show Kd.R k62 62 _ _ _ _ ((rd_T30 t420 x16_5).f1) from ge430_1)
                                            clear hv430_1 ge430_1
                                            clear hcc430 hce430
                                            have HR430_1 := Aside0.mk hi430_1
                                            have HC430_1 := Aside0.mk hl430_1
                                            clear hi430_1 hl430_1
                                            replace p430 := eq_true p430
                                            replace q430 := eq_true q430
                                            have p431 : 0 ≤ (x16_5 : Int) := of_decide_eq_true (by first | (with_reducible assumption) | assumption)
                                            have q431 : x16_5 < (t420.length : Int) := of_decide_eq_true (by first | (with_reducible assumption) | assumption)
                                            obtain ⟨ad431, A431_1, c431_1, e431, hx431_0, hx431_1, hl431_1, hi431_1⟩ := at_T30 (Kd.S_reads' HO_9.out).2.2 x16_5 p431 q431
                                            obtain rfl : ad430 = ad431 := (by injection e431)
                                            obtain ⟨ce431, hce431, hMe431, hcc431⟩ := Kd.S_get HO_9.out z30 x16_5 p431 (by first | exact q431 | exact of_decide_eq_true (by first | (with_reducible assumption) | assumption) | (have e_ := (Kd.S_reads' HO_9.out).1; omega))
                                            obtain ⟨ve431_1, rfl, ge431_1⟩ := k30_openM hMe431
                                            have hv431_1 := hcc431 1 _ rfl
                                            rw [add_field _ _ 1 (by omega)] at hv431_1
                                            replace hv431_1 := Option.some.inj (hv431_1.symm.trans hx431_1)
                                            rw [hv431_1] at ge431_1
                                            have HL431_1 := Aside0.mk (show Kd.R k62 62 _ _ _ _ ((rd_T30 t420 x16_5).f1) from ge431_1)
                                            clear hv431_1 ge431_1
                                            clear hcc431 hce431
                                            have HR431_1 := Aside0.mk hi431_1
                                            have HC431_1 := Aside0.mk hl431_1
                                            clear hi431_1 hl431_1
                                            replace p431 := eq_true p431
                                            replace q431 := eq_true q431
                                            have ea_ := Option.some.inj (hx430_1.symm.trans hx431_1)
                                            injection ea_ with ea_ en_ ec_
                                            subst ea_
                                            subst ec_
                                            clear en_
                                            have p432 : 0 ≤ (x16_5 : Int) := of_decide_eq_true (by first | (with_reducible assumption) | assumption)
                                            have q432 : x16_5 < (l1.length : Int) := of_decide_eq_true (by first | (with_reducible assumption) | assumption)
                                            obtain ⟨ad432, A432_0, c432_0, e432, hx432_0, hl432_0, hi432_0⟩ := at_L6 HR1.out x16_5 p432 q432
                                            cases e432
                                            replace hx432_0 := (HB.out.cell (World.block_lt_of_cell? w _ hx432_0)).trans hx432_0
                                            have HR432_0 := Aside0.mk hi432_0
                                            have HC432_0 := Aside0.mk hl432_0
                                            clear hi432_0 hl432_0
                                            replace p432 := eq_true p432
                                            replace q432 := eq_true q432
                                            go_wp2
                                            repeat (go_quiet ((go_at_call 24; (with_reducible refine (sheetpileref19_Changes.calls k5 _ _ ((rd_T30 t420 x16_5).f1) _ _ (rd_L6 l1 x16_5) false _ ?side1 ?side2 ?side3 ?side4 A43.out).mono ?_); (case side1 => repeat (first | exact (by repeat (first | (with_reducible exact HR431_1.out) | (with_reducible refine Kd.C_alloc ?_ _) | (with_reducible refine Kd.C_drewN ?_ _) | (with_reducible refine Kd.C_drew ?_) | exact HR431_1.out)) | (with_reducible refine Kd.C_alloc ?_ _) | (with_reducible refine Kd.C_drewN ?_ _) | (with_reducible refine Kd.C_drew ?_))); (case side2 => exact HC431_1.out); (case side3 => repeat (first | exact (Kd.C_below HR432_0.out HB.out) | (with_reducible refine Kd.C_alloc ?_ _) | (with_reducible refine Kd.C_drewN ?_ _) | (with_reducible refine Kd.C_drew ?_))); (case side4 => exact HC432_0.out); rintro e w' ⟨rfl, ⟨nd, rfl⟩⟩; (try first | exact ⟨rfl, _, World.drewN_drewN _ _ _⟩ | exact ⟨rfl, _, Eq.trans (World.drewN_drewN _ _ _) (congrArg (World.drewN _) (Nat.add_assoc _ _ _))⟩))); try go_wp2)
                                            go_ret
                                            exact ⟨by first | rfl | (simp [errW_none, errW_some] <;> rfl) | (simp [*, errW_none, errW_some] <;> rfl), by repeat (first | (with_reducible first | exact HB.out | apply below_alloc | apply pw_below_drewN | apply below_drew1) | exact HB.out)⟩
                                        · rw [if_neg c42] at H
                                          exact absurd H (by simp)
                                      · rw [if_neg c41] at H
                                        have c41b0 : (((rd_T30 t420 x16_5).f0) == (wrap64 (a0 + x16_5))) = false := beq_eq_false_iff_ne.mpr c41
                                        have c41b1 : (((rd_T30 t420 x16_5).f0) != (wrap64 (a0 + x16_5))) = true := bne_iff_ne.mpr c41
                                        obtain rfl := Option.some.inj H
                                        obtain ⟨Ao47, co47, eo47⟩ := Kd.S_slice HO_9.out
                                        subst eo47
                                        have p430 : 0 ≤ (x16_5 : Int) := of_decide_eq_true (by first | (with_reducible assumption) | assumption)
                                        have q430 : x16_5 < (t420.length : Int) := of_decide_eq_true (by first | (with_reducible assumption) | assumption)
                                        obtain ⟨ad430, A430_1, c430_1, e430, hx430_0, hx430_1, hl430_1, hi430_1⟩ := at_T30 (Kd.S_reads' HO_9.out).2.2 x16_5 p430 q430
                                        cases e430
                                        obtain ⟨ce430, hce430, hMe430, hcc430⟩ := Kd.S_get HO_9.out z30 x16_5 p430 (by first | exact q430 | exact of_decide_eq_true (by first | (with_reducible assumption) | assumption) | (have e_ := (Kd.S_reads' HO_9.out).1; omega))
                                        obtain ⟨ve430_1, rfl, ge430_1⟩ := k30_openM hMe430
                                        have hv430_1 := hcc430 1 _ rfl
                                        rw [add_field _ _ 1 (by omega)] at hv430_1
                                        replace hv430_1 := Option.some.inj (hv430_1.symm.trans hx430_1)
                                        rw [hv430_1] at ge430_1
                                        have HL430_1 := Aside0.mk (show Kd.R k62 62 _ _ _ _ ((rd_T30 t420 x16_5).f1) from ge430_1)
                                        clear hv430_1 ge430_1
                                        clear hcc430 hce430
                                        have HR430_1 := Aside0.mk hi430_1
                                        have HC430_1 := Aside0.mk hl430_1
                                        clear hi430_1 hl430_1
                                        replace p430 := eq_true p430
                                        replace q430 := eq_true q430
                                        go_wp2
                                        repeat (go_quiet (fail); try go_wp2)
                                        go_ret
                                        exact ⟨by first | rfl | (simp [errW_none, errW_some] <;> rfl) | (simp [*, errW_none, errW_some] <;> rfl), by repeat (first | (with_reducible first | exact HB.out | apply below_alloc | apply pw_below_drewN | apply below_drew1) | exact HB.out)⟩
                                    · rw [if_neg c40] at H
                                      exact absurd H (by simp)
                                  · rw [if_neg c39] at H
                                    exact absurd H (by simp)
                                · rw [if_neg c38] at H
                                  have c38b0 : decide (x16_5 < x12_20) = false := decide_eq_false c38
                                  clear c38
                                  replace H := Option.bind_eq_some_iff.mp H
                                  obtain ⟨t434, A480, H⟩ := H
                                  replace H : (some t434) = some r := H
                                  have A48 := Aside0.mk A480
                                  clear A480
                                  obtain rfl := Option.some.inj H
                                  go_wp2_with ((go_at_call 25; (with_reducible refine (sheetpilelaw20_live.calls  t434 _ A48.out).mono ?_); rintro e w49 ⟨rfl, hb⟩; have n0_ := Aside0.mk (Kd.S_below (by (with_reducible repeat (first | apply Kd.S_alloc | apply Kd.S_drewN | apply Kd.S_drew)); exact HO_9.out) hb); have n1_ := Aside0.mk (below_step (by repeat (first | (with_reducible first | exact HB.out | apply below_alloc | apply pw_below_drewN | apply below_drew1) | exact HB.out)) hb); clear HO_9; clear HB; have HO_9 := n0_; have HB := n1_; clear n0_ n1_; (try clear hb); (try clear hb2); (try clear hk); (try clear hi)))
                                  repeat (go_quiet (fail); try go_wp2)
                                  go_ret
                                  exact ⟨by first | rfl | (simp [errW_none, errW_some] <;> rfl) | (simp [*, errW_none, errW_some] <;> rfl), by repeat (first | (with_reducible first | exact HB.out | apply below_alloc | apply pw_below_drewN | apply below_drew1) | exact HB.out)⟩
                · rw [if_neg c19] at H
                  exact absurd H (by simp)
              · rw [if_neg c18] at H
                exact absurd H (by simp)

end Go.Proofs.Ytcgbjkjacpeheaa.PFr
